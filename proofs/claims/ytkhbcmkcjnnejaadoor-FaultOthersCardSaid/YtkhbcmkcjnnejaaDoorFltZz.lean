/- The walk of FaultOthers. -/
import Derived.Test.YtkhbcmkcjnnejaaDoorFltZ
import Derived.Deep.DeepCutAuto
import Derived.Deep.CutBlock
namespace Go.Proofs.YtkhbcmkcjnnejaaDoor
set_option linter.unusedVariables false
set_option linter.unusedSimpArgs false
set_option linter.unnecessarySimpa false
open Go.RowKit Go.Extern.Stop Go.Stop Go.Extern
set_option maxRecDepth 20000
set_option maxHeartbeats 8000000

theorem infoU32 : (Tryd.prog.info? 23).map (fun i => (i.zero, i.size, i.bytes)) = some (some (.int .u32 0), 1, 4) := by kernel_rfl
/-- numbers appended onto a row of the call's own -/
theorem app_u {ops : Array Oper} {rest : List Oper} {o : Oper} {a : Act} {Q : Exit → Act → World → Prop} (w : World) (hgd : o.guard = none) (s x : Operand) (ho : o.op = .call { callee := .builtin .append, args := #[s, x], argTypes := #[22, 22] })
    (B : Nat) (A : Option Addr) (n c : Nat) (xs : List Value) (hs : a.eval s = .slice A n c) (hown : Own w B 23 1 A n c xs)
    (A2 : Option Addr) (m c2 : Nat) (L : List Nat) (hx : a.eval x = .slice A2 m c2) (hm : m = L.length) (hr : Sl w A2 (L.map cv)) (hb : n + m ≤ 1000000) (hB : B ≤ w.heap.size) (N : Nat) (hN : n + m = N)
    (h : ∀ A' c' w', Own w' B 23 1 A' N c' (xs ++ L.map cv) → w.grownBy w' (Value.ownBlock (.slice A n c)) → (A' = A ∨ A' = some ⟨w.heap.size, 0, none⟩) → Below B w w' →
      wpList Tryd.prog ops Q rest (a.put o.dst (.slice A' N c')) w') : wpList Tryd.prog ops Q (o :: rest) a w := by
  obtain ⟨i0, hi0, hz0, hz1, hz2⟩ := info_parts infoU32
  refine wpList_app w hgd s x _ ho B 23 i0 _ 1 4 Tryd.underlying22 hi0 hz0 hz1 hz2 rfl (by omega) A n c _ hs hown A2 m c2 (L.map cv) hx (by rw [List.length_map]; omega) hr (by intro u hu; obtain ⟨y, _, rfl⟩ := List.mem_map.1 hu; rfl) (by unfold maxLen; omega) (by omega) hB N hN _ rfl ?_
  intro A' c' w' h1 h2 h3 h4
  exact h A' c' w' h1 h2 h3 h4
theorem wp_app_u {o : Oper} {a : Act} {K : Act → World → Prop} {Q : Exit → Act → World → Prop} {w : World} (s x : Operand) (ho : o.op = .call { callee := .builtin .append, args := #[s, x], argTypes := #[22, 22] })
    (B : Nat) (A : Option Addr) (n c : Nat) (xs : List Value) (hs : a.eval s = .slice A n c) (hown : Own w B 23 1 A n c xs)
    (A2 : Option Addr) (m c2 : Nat) (L : List Nat) (hx : a.eval x = .slice A2 m c2) (hm : m = L.length) (hr : Sl w A2 (L.map cv)) (hb : n + m ≤ 1000000) (hB : B ≤ w.heap.size) (N : Nat) (hN : n + m = N)
    (h : ∀ A' c' w', Own w' B 23 1 A' N c' (xs ++ L.map cv) → w.grownBy w' (Value.ownBlock (.slice A n c)) → Below B w w' → K (a.put o.dst (.slice A' N c')) w') : Oper.wp Tryd.prog o a w K Q := by
  subst hN
  obtain ⟨i0, hi0, hz0, hz1, hz2⟩ := info_parts infoU32
  obtain ⟨A', c', w', hr', h2, h3, h4⟩ := run_app (P := Tryd.prog) w B 22 o.type 23 i0 _ 1 4 Tryd.underlying22 hi0 hz0 hz1 hz2 rfl (by omega) A n c _ hown A2 m c2 (L.map cv) (by simp [hm]) hr (by intro u hu; obtain ⟨y, _, rfl⟩ := List.mem_map.1 hu; rfl) (by unfold maxLen; omega) (by omega) hB
  unfold Oper.wp execOp
  simp only [ho, resolve, invoke, builtin, Sem.run_bind, Sem.run_pure, Result.andThen_ok, List.map_toArray, List.map_cons, List.map_nil, hs, hx, hr']
  exact h A' c' w' h2 h3 (below_grown hown hB h3)
theorem own_one (w : World) (v : Value) {B : Nat} (hB : B ≤ w.heap.size) : Own (w.alloc (.cells #[v] 23)) B 23 1 (some ⟨w.heap.size, 0, none⟩) 1 1 [v] := by
  refine ⟨rfl, .inr ⟨w.heap.size, 1, #[v], rfl, hB, ?_, Nat.le_refl _, by unfold maxLen; omega, rfl, rfl⟩⟩
  show (w.heap.push _)[w.heap.size]? = _
  simp
theorem own_empty (w : World) {B : Nat} (hB : B ≤ w.heap.size) : Own (w.alloc (.cells #[] 23)) B 23 1 (some ⟨w.heap.size, 0, none⟩) 0 0 [] := by
  refine ⟨rfl, .inr ⟨w.heap.size, 0, #[], rfl, hB, ?_, Nat.le_refl _, Nat.zero_le _, rfl, rfl⟩⟩
  show (w.heap.push _)[w.heap.size]? = _
  simp
/-- the chain that stands when the codes from k on are laid around -/
def OthC (w : World) (a : Nat → Addr) (L : List Nat) (c : Nat) (t : List UInt8) (k : Nat) (v : Value) : Prop := Ch w a (.txt t) ((L.drop k).map cntN ++ [cntN c]) v
theorem OthC.set0 {w : World} {a : Nat → Addr} {L : List Nat} {c : Nat} {t : List UInt8} {k g : Nat} {v : Value} {xs : Array Value} (h : OthC w a L c t k v) (hB : Blk w g 28 xs) (x : Value) : OthC (w.setCell ⟨g, 0, none⟩ x) a L c t k v :=
  (show Ch w a _ _ v from h).only1 hB (by decide) (by decide) (Only.set (fun k => k = g) (Only.refl _ w) (p := g) (i := 0) rfl x)
theorem oth_under (a : Nat → Addr) (L : List Nat) (c : Nat) (t : List UInt8) (m : Nat) (v : Value) (w : World) (hm : m < L.length) (hL : ∀ x ∈ L, x ≤ 4294967295) (hC : OthC w a L c t (m + 1) v) :
    Calls Tryd.prog 23 #[.int .u32 ((L.getD m 0 : Nat) : Int), .agg #[v]] w fun e w' => ∃ tt x, e = .returned (.agg #[.iface tt x]) ∧ OthC w' a L c t m (.iface tt x) ∧ Below w.heap.size w w' := by
  refine (fa_Under _ a _ _ v w (by rw [getD_lt hm]; exact hL _ (List.getElem_mem _)) hC).mono ?_
  rintro e w' ⟨u, rfl, hc2, hb⟩
  obtain ⟨tt, x, rfl⟩ := ch_iface hc2
  refine ⟨tt, x, rfl, ?_, hb⟩
  unfold OthC
  rw [List.drop_eq_getElem_cons hm, ← getD_lt hm]
  exact hc2

theorem faultOthers_walk (a : Nat → Addr) (M : Nat) (A : Option Addr) (n cp : Nat) (L : List Nat) (c : Nat) (t : List UInt8) (w : World) (hG : GV w a M) (hM : M ≤ w.heap.size) (hn : n = L.length) (hs : Sl w A (L.map cv)) (hL : ∀ x ∈ L, x ≤ 4294967295) (hc : c ≤ 4294967295) :
    Calls Tryd.prog 7 #[.slice A n cp, .int .u32 (c : Nat), .string (bs t)] w (TrueB w) := by
  by_cases h5 : 50 < n
  · have HK := hide (la_known a M w hG hM)
    clear hG hM hn hs hL
    go_enter Tryd.func7, Tryd.ntmps7
    go_wp2_with fail
    refine HK.out.mono ?_
    rintro e w1 ⟨rfl, hb⟩
    go_wp2_with fail
    go_ret
    exact (⟨rfl, hb⟩ : TrueB w _ _)
  obtain ⟨s, hss⟩ : ∃ s, s = bs t := ⟨_, rfl⟩
  by_cases h6 : 1000 < s.size
  · have HK := hide (la_known a M w hG hM)
    rw [← hss]
    clear hG hM hn hs hL hss
    go_enter Tryd.func7, Tryd.ntmps7
    go_wp2_with fail
    refine HK.out.mono ?_
    rintro e w1 ⟨rfl, hb⟩
    go_wp2_with fail
    go_ret
    exact (⟨rfl, hb⟩ : TrueB w _ _)
  have HOf := hide (fa_Of c a t w hc)
  rw [← hss] at HOf ⊢
  have z1 : decide (50 < (n : Int)) = false := by simp; omega
  have z2 : decide (1000 < (s.size : Int)) = false := by simp; omega
  have hn5 : n ≤ 50 := by omega
  have hs6 : s.size ≤ 1000 := by omega
  have HN := hide hn
  have HS := hide hs
  have HL := hide hL
  have HG := hide (And.intro hG hM)
  have HSS := hide hss
  have HCc := hide hc
  clear hG hM hn hs hL hss h5 h6 hc
  go_enter Tryd.func7, Tryd.ntmps7
  go_wp2_with fail
  refine HOf.out.mono ?_
  rintro e w1 ⟨v, rfl, hC, hb⟩
  obtain ⟨tf, xf, rfl⟩ := ch_iface hC
  have q1 := blk_one w1 28 #[.iface tf xf]
  have hb1 := below_alloc (Below.refl w1.heap.size w1) (.cells #[.iface tf xf] 28)
  have K1 := hide (show Blk _ w1.heap.size 28 #[.iface tf xf] ∧ OthC _ a L c t n (.iface tf xf) ∧ Below w.heap.size w _ ∧ w.heap.size ≤ w1.heap.size from ⟨q1, by
    unfold OthC
    rw [List.drop_eq_nil_of_le (by rw [HN.out]; omega)]
    exact hC.below hb1, below_step hb1 hb, hb.size⟩)
  clear hC hb q1 hb1 HOf
  go_wp2_with fail
  obtain ⟨W1, hW1⟩ : ∃ W, W = w1.alloc (.cells #[.iface tf xf] 28) := ⟨_, rfl⟩
  obtain ⟨p1, hp1⟩ : ∃ p, p = w1.heap.size := ⟨_, rfl⟩
  rw [← hW1, ← hp1] at K1 ⊢
  clear hW1 hp1
  go_loopw [8] (fun i8 wr => ∃ (k : Nat) (z : Int) (tt : TypeId) (x : Value), k ≤ n ∧ i8 = .int .i64 z ∧ z = (k : Int) - 1 ∧ Hid (Blk wr p1 28 #[.iface tt x] ∧ OthC wr a L c t k (.iface tt x) ∧ Below w.heap.size w wr ∧ w.heap.size ≤ p1)) (fun i8 _ => (intOf i8 + 1).toNat)
  case atStart => exact ⟨n, _, tf, xf, by omega, rfl, by omega, K1⟩
  case round =>
    obtain ⟨k, z, tt, x, hk, rfl, hz, HK⟩ := hrel
    rcases Nat.eq_zero_or_pos k with h0 | h0
    · subst h0
      obtain rfl : z = -1 := by omega
      clear hz hk
      have x0 := HK.out.1.cell 0 (u := .iface tt x) rfl
      have HSw := hide ((HS.out.below HK.out.2.2.1).below (below_alloc (Below.refl wr.heap.size wr) (.cells #[] 23)))
      go_wp2_with (at_builtin; first | (refine app_u _ rfl _ _ rfl wr.heap.size _ 0 0 [] rfl (own_empty wr (Nat.le_refl _)) A n cp L rfl HN.out HSw.out (by omega) (below_alloc (Below.refl wr.heap.size wr) (.cells #[] 23)).size n (by omega) ?_; intro A3 c3 w3 hown3 hg3 hr3 hb3) | (revert hr3))
      intro hr3
      have q1 := hown3.alloc (.cells #[.int .u32 ((c : Nat) : Int)] 23)
      have q2 : Sl (w3.alloc (.cells #[.int .u32 ((c : Nat) : Int)] 23)) (some ⟨w3.heap.size, 0, none⟩) ([c].map cv) := Sl.one _ _ _
      have q3 := Nat.le_trans (below_alloc (Below.refl wr.heap.size wr) (.cells #[] 23)).size (Nat.le_trans hb3.size (below_alloc (Below.refl w3.heap.size w3) (.cells #[.int .u32 ((c : Nat) : Int)] 23)).size)
      obtain ⟨N, hN⟩ : ∃ N, n + 1 = N := ⟨_, rfl⟩
      refine app_u _ rfl _ _ rfl wr.heap.size _ n c3 _ rfl q1 _ 1 1 [c] rfl rfl q2 (by omega) q3 N hN ?_
      intro A4 c4 w4 hown4 hg4 hr4 hb4
      have hb5 : Below wr.heap.size wr w4 := (below_alloc ((below_alloc (Below.refl wr.heap.size wr) (.cells #[] 23)).trans hb3) (.cells #[.int .u32 ((c : Nat) : Int)] 23)).trans hb4
      obtain ⟨LL, hLL⟩ : ∃ LL, LL = L ++ [c] := ⟨_, rfl⟩
      have hSl : Sl w4 A4 (LL.map cv) := by
        have := hown4.sl
        rw [hLL]
        simpa using this
      have hLLe : ∀ y ∈ LL, y ≤ 4294967295 := by
        rw [hLL]
        intro y hy
        rcases List.mem_append.1 hy with h | h
        · exact HL.out y h
        · rw [List.mem_singleton.1 h]; exact HCc.out
      have hNL : N = LL.length := by rw [hLL, List.length_append, ← HN.out, ← hN]; rfl
      have K5 : FK w a M p1 (.txt t) (LL.map cntN) (.iface tt x) w4 := ⟨HK.out.1.below hb5 HK.out.1.lt, Ch.below hb5 (by
        have := HK.out.2.1
        unfold OthC at this
        rw [hLL]
        simpa using this), (HG.out.1.below HK.out.2.2.1).below hb5, below_step hb5 HK.out.2.2.1, Nat.le_trans HG.out.2 (Nat.le_trans HK.out.2.2.1.size hb5.size)⟩
      have hNp : 0 < N := by omega
      have hN5 : N ≤ 51 := by omega
      obtain ⟨b, off, hA4, c0⟩ := at_cv hSl (show 0 < LL.length by omega)
      rw [Nat.add_zero] at c0
      have hcons : LL.map cntN = cntN (LL.getD 0 0) :: LL.tail.map cntN := by
        cases LL with
        | nil => rw [List.length_nil] at hNL; omega
        | cons d L' => rfl
      have HC0 := hide (fun W => rf_Counts (LL.getD 0 0) W (by rw [getD_lt (show 0 < LL.length by omega)]; exact hLLe _ (List.getElem_mem _)))
      have HCo := hide (fun b v W (h : FK w a M b (.txt t) (LL.map cntN) v W) => fa_Code a M (.txt t) (cntN (LL.getD 0 0)) (LL.tail.map cntN) v W h.gv (by rw [← hcons]; exact h.ch))
      have HFa := hide (fun b v W (h : FK w a M b (.txt t) (LL.map cntN) v W) => fa_Family a M (.txt t) (LL.map cntN) v W h.gv trivial h.ch)
      rw [show famE (.txt t) = 5 from rfl] at HFa
      have HDe := hide (fun b v W (h : FK w a M b (.txt t) (LL.map cntN) v W) => fa_Depth a M (.txt t) (LL.map cntN) v W h.gv h.ch h.m (by rw [List.length_map]; omega))
      rw [show (LL.map cntN).length = N from by rw [List.length_map, hNL]] at HDe
      have HS1 := hide (fun b v W (h : FK w a M b (.txt t) (LL.map cntN) v W) => fa_Says a t (.txt t) (LL.map cntN) v W h.ch)
      rw [show isT (.txt t) t = true from by simp [isT], ← HSS.out] at HS1
      have HS2 := hide (fun b v W (h : FK w a M b (.txt t) (LL.map cntN) v W) => fa_Says a (t ++ [63]) (.txt t) (LL.map cntN) v W h.ch)
      rw [show isT (.txt t) (t ++ [63]) = false from by simp [isT], show bs (t ++ [63]) = s ++ (⟨#[63]⟩ : ByteArray) from by rw [HSS.out, ← bs_app]; rfl] at HS2
      have HSa := hide (fun b v W (h : FK w a M b (.txt t) (LL.map cntN) v W) => fa_Say a M (.txt t) (cntN (LL.getD 0 0)) (LL.tail.map cntN) v W h.gv (by rw [← hcons]; exact h.ch) (by rw [← hcons]; exact cnts_le hLLe) (by rw [List.length_map, List.length_tail]; omega) (by
        show t.length ≤ 1000000
        have h1 : s.size = t.length := by rw [HSS.out]; rfl
        omega) h.m)
      obtain ⟨T1, hT1⟩ : ∃ T, T = bs (jP (cnts LL) N) := ⟨_, rfl⟩
      rw [← hcons, show endT (.txt t) = some t from rfl, say_chain LL (by intro h; rw [h, List.length_nil] at hNL; omega), ← hNL, show bs (jP (cnts LL) N ++ (match (some t : Option (List UInt8)) with | none => [] | some t => [58, 32] ++ t)) = (T1 ++ (⟨#[58, 32]⟩ : ByteArray)) ++ s from by
        rw [hT1, HSS.out]
        show bs (jP (cnts LL) N ++ ([58, 32] ++ t)) = _
        rw [show (⟨#[58, 32]⟩ : ByteArray) = bs [58, 32] from rfl, bs_app, bs_app, List.append_assoc]] at HSa
      have HCh := hide (fun W (h : Sl W A4 (LL.map cv)) => rf_Chain A4 N c4 LL W hNL (by omega) h hLLe)
      rw [← hT1] at HCh
      have hT1s : T1.size ≤ 2100 := by rw [hT1, bs_size]; have := jP_le (cnts LL) N; omega
      have HLa := hide (fun b v W (h : FK w a M b (.txt t) (LL.map cntN) v W) => la_known a M W h.gv h.m)
      obtain ⟨CS, hCS⟩ : ∃ CS, CS = LL.map cntN := ⟨_, rfl⟩
      rw [← hCS] at HCo HFa HDe HS1 HS2 HSa HLa K5
      obtain ⟨d, hd⟩ : ∃ d, d = LL.getD 0 0 := ⟨_, rfl⟩
      rw [← hd] at HC0 c0 HCo
      obtain ⟨kd, hkd⟩ : ∃ kd, kd = cntN d := ⟨_, rfl⟩
      rw [← hkd] at HC0 HCo
      have HK5 := hide (And.intro (And.intro (K5.box.cell 0 (u := .iface tt x) rfl) c0) (And.intro K5 hSl))
      obtain ⟨i1, i2, i3⟩ := idx_at hNp
      have x0 := HK5.out.1.1
      have e1 : ¬ 9223372036854775807 < s.size + 1 := by omega
      have e2 : ¬ 9223372036854775807 < T1.size + 2 := by omega
      have e3 : ¬ 9223372036854775807 < T1.size + 2 + s.size := by omega
      have e4 : ¬ 9223372036854775807 < (T1 ++ (⟨#[58, 32]⟩ : ByteArray)).size + s.size := by rw [ByteArray.size_append]; exact e3
      subst hA4
      clear hd hkd hCS hT1 hcons c0 K5 hNL hLLe hSl hLL hb5 hb4 hr4 hg4 hown4 q1 q2 q3 hr3 hg3 hb3 hown3 HSw HK K1 HL HS HN HCc HG hN5 z1 z2 hn5
      clear hN
      go_wp2_with fail
      refine wp_region_held_drew (S := (fun w' => (w'.cell? ⟨p1, 0, none⟩ = some (.iface tt x) ∧ w'.cell? ⟨b, off, none⟩ = some (.int .u32 (d : Nat))) ∧ FK w a M p1 (.txt t) CS (.iface tt x) w' ∧ Sl w' (some ⟨b, off, none⟩) (LL.map cv))) (by kernel_rfl) ?hS1 (fun hHeld => ?rest1)
      case hS1 => ((try dsimp only); (exact ⟨⟨HK5.out.2.1.box.cell 0 rfl, HK5.out.1.2⟩, HK5.out.2.1.below (below_drew1 (Below.refl _ _)), HK5.out.2.2.below (below_drew1 (Below.refl _ _))⟩))
      case' rest1 => skip
      have HZ := hide hHeld
      clear hHeld
      refine wpAnyH_take (i := 0) (oi := _) (v := ?v2) rfl (by kernel_rfl) (by kernel_rfl) (by kernel_rfl) (fun _ _ _ h => h) (Or.inl ⟨by rfl, ?hy2⟩) (by assumption) ?rest2
      case hy2 => ((intro w hSw; (try dsimp only at hSw); go_simp) <;> with_reducible rfl)
      case' rest2 => try simp only [List.getElem_toArray, List.getElem_cons_zero, List.getElem_cons_succ, Act.put, List.setIfInBounds_toArray, List.set_cons_zero, List.set_cons_succ]
      refine wpAnyH_take (i := 2) (oi := _) (v := ?v3) rfl (by kernel_rfl) (by kernel_rfl) (by kernel_rfl) (fun _ _ _ h => h) (Or.inl ⟨by rfl, ?hy3⟩) (by assumption) ?rest3
      case hy3 => ((intro w hSw; (try dsimp only at hSw); go_simp) <;> with_reducible rfl)
      case' rest3 => try simp only [List.getElem_toArray, List.getElem_cons_zero, List.getElem_cons_succ, Act.put, List.setIfInBounds_toArray, List.set_cons_zero, List.set_cons_succ]
      refine wpAnyH_take (i := 3) (oi := _) (v := ?v4) rfl (by kernel_rfl) (by kernel_rfl) (by kernel_rfl) (fun _ _ _ h => h) (Or.inl ⟨by rfl, ?hy4⟩) (by assumption) ?rest4
      case hy4 => ((intro w hSw; (try dsimp only at hSw); go_simp) <;> with_reducible rfl)
      case' rest4 => try simp only [List.getElem_toArray, List.getElem_cons_zero, List.getElem_cons_succ, Act.put, List.setIfInBounds_toArray, List.set_cons_zero, List.set_cons_succ]
      refine wpAnyH_take (i := 4) (oi := _) (v := ?v5) rfl (by kernel_rfl) (by kernel_rfl) (by kernel_rfl) (fun _ _ _ h => h) (Or.inl ⟨by rfl, ?hy5⟩) (by assumption) ?rest5
      case hy5 => ((intro w hSw; (try dsimp only at hSw); go_simp) <;> with_reducible rfl)
      case' rest5 => try simp only [List.getElem_toArray, List.getElem_cons_zero, List.getElem_cons_succ, Act.put, List.setIfInBounds_toArray, List.set_cons_zero, List.set_cons_succ]
      refine wpAnyH_ready (rs := [1]) (by kernel_rfl) (by simp) ?_
      refine AllReadyH.cons (o := _) rfl (fun K hK => ?_) AllReadyH.nil
      go_simp
      refine (HCo.out _ _ _ HZ.out.2.1).mono ?_
      rintro e w5 ⟨rfl, hb⟩
      try dsimp only
      refine hK.out _ _ ?hS8 (fun hHeld => ?rest8)
      case hS8 => ((try dsimp only); (exact ⟨⟨(HZ.out.2.1.below hb).box.cell 0 rfl, (hb.cell (lt_of_cell HZ.out.1.2)).trans HZ.out.1.2⟩, HZ.out.2.1.below hb, HZ.out.2.2.below hb⟩))
      case' rest8 => (clear hK K; try simp only [List.getElem_toArray, List.getElem_cons_zero, List.getElem_cons_succ, Act.put, List.setIfInBounds_toArray, List.set_cons_zero, List.set_cons_succ])
      clear HZ hb
      have HZ := hide hHeld
      clear hHeld
      refine wpAnyH_ready (rs := [5]) (by kernel_rfl) (by simp) ?_
      refine AllReadyH.cons (o := _) rfl (fun K hK => ?_) AllReadyH.nil
      go_simp
      refine (HC0.out _).mono ?_
      rintro e w5 ⟨rfl, hb⟩
      try dsimp only
      refine hK.out _ _ ?hS11 (fun hHeld => ?rest11)
      case hS11 => ((try dsimp only); (exact ⟨⟨(HZ.out.2.1.below hb).box.cell 0 rfl, (hb.cell (lt_of_cell HZ.out.1.2)).trans HZ.out.1.2⟩, HZ.out.2.1.below hb, HZ.out.2.2.below hb⟩))
      case' rest11 => (clear hK K; try simp only [List.getElem_toArray, List.getElem_cons_zero, List.getElem_cons_succ, Act.put, List.setIfInBounds_toArray, List.set_cons_zero, List.set_cons_succ])
      clear HZ hb
      have HZ := hide hHeld
      clear hHeld
      refine wpAnyH_take (i := 6) (oi := _) (v := ?v12) rfl (by kernel_rfl) (by kernel_rfl) (by kernel_rfl) (fun _ _ _ h => h) (Or.inl ⟨by rfl, ?hy12⟩) (by assumption) ?rest12
      case hy12 => ((intro w hSw; (try dsimp only at hSw); go_simp) <;> with_reducible rfl)
      case' rest12 => try simp only [List.getElem_toArray, List.getElem_cons_zero, List.getElem_cons_succ, Act.put, List.setIfInBounds_toArray, List.set_cons_zero, List.set_cons_succ]
      refine wpAnyH_take (i := 7) (oi := _) (v := ?v13) rfl (by kernel_rfl) (by kernel_rfl) (by kernel_rfl) (fun _ _ _ h => h) (Or.inl ⟨by rfl, ?hy13⟩) (by assumption) ?rest13
      case hy13 => ((intro w hSw; (try dsimp only at hSw); go_simp) <;> with_reducible rfl)
      case' rest13 => try simp only [List.getElem_toArray, List.getElem_cons_zero, List.getElem_cons_succ, Act.put, List.setIfInBounds_toArray, List.set_cons_zero, List.set_cons_succ]
      refine wpAnyH_take (i := 8) (oi := _) (v := ?v14) rfl (by kernel_rfl) (by kernel_rfl) (by kernel_rfl) (fun _ _ _ h => h) (Or.inl ⟨by rfl, ?hy14⟩) (by assumption) ?rest14
      case hy14 => ((intro w hSw; (try dsimp only at hSw); go_simp) <;> with_reducible rfl)
      case' rest14 => try simp only [List.getElem_toArray, List.getElem_cons_zero, List.getElem_cons_succ, Act.put, List.setIfInBounds_toArray, List.set_cons_zero, List.set_cons_succ]
      refine wpAnyH_ready (rs := [9]) (by kernel_rfl) (by simp) ?_
      refine AllReadyH.cons (o := _) rfl (fun K hK => ?_) AllReadyH.nil
      go_simp
      refine (HFa.out _ _ _ HZ.out.2.1).mono ?_
      rintro e w5 ⟨rfl, hb⟩
      try dsimp only
      refine hK.out _ _ ?hS17 (fun hHeld => ?rest17)
      case hS17 => ((try dsimp only); (exact ⟨⟨(HZ.out.2.1.below hb).box.cell 0 rfl, (hb.cell (lt_of_cell HZ.out.1.2)).trans HZ.out.1.2⟩, HZ.out.2.1.below hb, HZ.out.2.2.below hb⟩))
      case' rest17 => (clear hK K; try simp only [List.getElem_toArray, List.getElem_cons_zero, List.getElem_cons_succ, Act.put, List.setIfInBounds_toArray, List.set_cons_zero, List.set_cons_succ])
      clear HZ hb
      have HZ := hide hHeld
      clear hHeld
      refine wpAnyH_take (i := 10) (oi := _) (v := ?v18) rfl (by kernel_rfl) (by kernel_rfl) (by kernel_rfl) (fun _ _ _ h => h) (Or.inl ⟨by rfl, ?hy18⟩) (by assumption) ?rest18
      case hy18 => ((intro w hSw; (try dsimp only at hSw); go_simp) <;> with_reducible rfl)
      case' rest18 => try simp only [List.getElem_toArray, List.getElem_cons_zero, List.getElem_cons_succ, Act.put, List.setIfInBounds_toArray, List.set_cons_zero, List.set_cons_succ]
      refine wpAnyH_take (i := 11) (oi := _) (v := ?v19) rfl (by kernel_rfl) (by kernel_rfl) (by kernel_rfl) (fun _ _ _ h => h) (Or.inl ⟨by rfl, ?hy19⟩) (by assumption) ?rest19
      case hy19 => ((intro w hSw; (try dsimp only at hSw); go_simp) <;> with_reducible rfl)
      case' rest19 => try simp only [List.getElem_toArray, List.getElem_cons_zero, List.getElem_cons_succ, Act.put, List.setIfInBounds_toArray, List.set_cons_zero, List.set_cons_succ]
      refine wpAnyH_take (i := 12) (oi := _) (v := ?v20) rfl (by kernel_rfl) (by kernel_rfl) (by kernel_rfl) (fun _ _ _ h => h) (Or.inl ⟨by rfl, ?hy20⟩) (by assumption) ?rest20
      case hy20 => ((intro w hSw; (try dsimp only at hSw); go_simp) <;> with_reducible rfl)
      case' rest20 => try simp only [List.getElem_toArray, List.getElem_cons_zero, List.getElem_cons_succ, Act.put, List.setIfInBounds_toArray, List.set_cons_zero, List.set_cons_succ]
      refine wpAnyH_take (i := 13) (oi := _) (v := ?v21) rfl (by kernel_rfl) (by kernel_rfl) (by kernel_rfl) (fun _ _ _ h => h) (Or.inl ⟨by rfl, ?hy21⟩) (by assumption) ?rest21
      case hy21 => ((intro w hSw; (try dsimp only at hSw); go_simp) <;> with_reducible rfl)
      case' rest21 => try simp only [List.getElem_toArray, List.getElem_cons_zero, List.getElem_cons_succ, Act.put, List.setIfInBounds_toArray, List.set_cons_zero, List.set_cons_succ]
      refine wpAnyH_take (i := 15) (oi := _) (v := ?v22) rfl (by kernel_rfl) (by kernel_rfl) (by kernel_rfl) (fun _ _ _ h => h) (Or.inl ⟨by rfl, ?hy22⟩) (by assumption) ?rest22
      case hy22 => ((intro w hSw; (try dsimp only at hSw); go_simp) <;> with_reducible rfl)
      case' rest22 => try simp only [List.getElem_toArray, List.getElem_cons_zero, List.getElem_cons_succ, Act.put, List.setIfInBounds_toArray, List.set_cons_zero, List.set_cons_succ]
      refine wpAnyH_take (i := 16) (oi := _) (v := ?v23) rfl (by kernel_rfl) (by kernel_rfl) (by kernel_rfl) (fun _ _ _ h => h) (Or.inl ⟨by rfl, ?hy23⟩) (by assumption) ?rest23
      case hy23 => ((intro w hSw; (try dsimp only at hSw); go_simp) <;> with_reducible rfl)
      case' rest23 => try simp only [List.getElem_toArray, List.getElem_cons_zero, List.getElem_cons_succ, Act.put, List.setIfInBounds_toArray, List.set_cons_zero, List.set_cons_succ]
      refine wpAnyH_ready (rs := [14]) (by kernel_rfl) (by simp) ?_
      refine AllReadyH.cons (o := _) rfl (fun K hK => ?_) AllReadyH.nil
      go_simp
      refine (HDe.out _ _ _ HZ.out.2.1).mono ?_
      rintro e w5 ⟨rfl, hb⟩
      try dsimp only
      refine hK.out _ _ ?hS26 (fun hHeld => ?rest26)
      case hS26 => ((try dsimp only); (exact ⟨⟨(HZ.out.2.1.below hb).box.cell 0 rfl, (hb.cell (lt_of_cell HZ.out.1.2)).trans HZ.out.1.2⟩, HZ.out.2.1.below hb, HZ.out.2.2.below hb⟩))
      case' rest26 => (clear hK K; try simp only [List.getElem_toArray, List.getElem_cons_zero, List.getElem_cons_succ, Act.put, List.setIfInBounds_toArray, List.set_cons_zero, List.set_cons_succ])
      clear HZ hb
      have HZ := hide hHeld
      clear hHeld
      refine wpAnyH_take (i := 17) (oi := _) (v := ?v27) rfl (by kernel_rfl) (by kernel_rfl) (by kernel_rfl) (fun _ _ _ h => h) (Or.inl ⟨by rfl, ?hy27⟩) (by assumption) ?rest27
      case hy27 => ((intro w hSw; (try dsimp only at hSw); go_simp) <;> with_reducible rfl)
      case' rest27 => try simp only [List.getElem_toArray, List.getElem_cons_zero, List.getElem_cons_succ, Act.put, List.setIfInBounds_toArray, List.set_cons_zero, List.set_cons_succ]
      refine wpAnyH_take (i := 18) (oi := _) (v := ?v28) rfl (by kernel_rfl) (by kernel_rfl) (by kernel_rfl) (fun _ _ _ h => h) (Or.inl ⟨by rfl, ?hy28⟩) (by assumption) ?rest28
      case hy28 => ((intro w hSw; (try dsimp only at hSw); go_simp) <;> with_reducible rfl)
      case' rest28 => try simp only [List.getElem_toArray, List.getElem_cons_zero, List.getElem_cons_succ, Act.put, List.setIfInBounds_toArray, List.set_cons_zero, List.set_cons_succ]
      refine wpAnyH_take (i := 19) (oi := _) (v := ?v29) rfl (by kernel_rfl) (by kernel_rfl) (by kernel_rfl) (fun _ _ _ h => h) (Or.inl ⟨by rfl, ?hy29⟩) (by assumption) ?rest29
      case hy29 => ((intro w hSw; (try dsimp only at hSw); go_simp) <;> with_reducible rfl)
      case' rest29 => try simp only [List.getElem_toArray, List.getElem_cons_zero, List.getElem_cons_succ, Act.put, List.setIfInBounds_toArray, List.set_cons_zero, List.set_cons_succ]
      refine wpAnyH_take (i := 20) (oi := _) (v := ?v30) rfl (by kernel_rfl) (by kernel_rfl) (by kernel_rfl) (fun _ _ _ h => h) (Or.inl ⟨by rfl, ?hy30⟩) (by assumption) ?rest30
      case hy30 => ((intro w hSw; (try dsimp only at hSw); go_simp) <;> with_reducible rfl)
      case' rest30 => try simp only [List.getElem_toArray, List.getElem_cons_zero, List.getElem_cons_succ, Act.put, List.setIfInBounds_toArray, List.set_cons_zero, List.set_cons_succ]
      refine wpAnyH_take (i := 21) (oi := _) (v := ?v31) rfl (by kernel_rfl) (by kernel_rfl) (by kernel_rfl) (fun _ _ _ h => h) (Or.inl ⟨by rfl, ?hy31⟩) (by assumption) ?rest31
      case hy31 => ((intro w hSw; (try dsimp only at hSw); go_simp) <;> with_reducible rfl)
      case' rest31 => try simp only [List.getElem_toArray, List.getElem_cons_zero, List.getElem_cons_succ, Act.put, List.setIfInBounds_toArray, List.set_cons_zero, List.set_cons_succ]
      refine wpAnyH_ready (rs := [22]) (by kernel_rfl) (by simp) ?_
      refine AllReadyH.cons (o := _) rfl (fun K hK => ?_) AllReadyH.nil
      go_simp
      refine (HS1.out _ _ _ HZ.out.2.1).mono ?_
      rintro e w5 ⟨rfl, hb⟩
      try dsimp only
      refine hK.out _ _ ?hS34 (fun hHeld => ?rest34)
      case hS34 => ((try dsimp only); (exact ⟨⟨(HZ.out.2.1.below hb).box.cell 0 rfl, (hb.cell (lt_of_cell HZ.out.1.2)).trans HZ.out.1.2⟩, HZ.out.2.1.below hb, HZ.out.2.2.below hb⟩))
      case' rest34 => (clear hK K; try simp only [List.getElem_toArray, List.getElem_cons_zero, List.getElem_cons_succ, Act.put, List.setIfInBounds_toArray, List.set_cons_zero, List.set_cons_succ])
      clear HZ hb
      have HZ := hide hHeld
      clear hHeld
      refine wpAnyH_take (i := 23) (oi := _) (v := ?v35) rfl (by kernel_rfl) (by kernel_rfl) (by kernel_rfl) (fun _ _ _ h => h) (Or.inl ⟨by rfl, ?hy35⟩) (by assumption) ?rest35
      case hy35 => ((intro w hSw; (try dsimp only at hSw); go_simp) <;> with_reducible rfl)
      case' rest35 => try simp only [List.getElem_toArray, List.getElem_cons_zero, List.getElem_cons_succ, Act.put, List.setIfInBounds_toArray, List.set_cons_zero, List.set_cons_succ]
      refine wpAnyH_take (i := 24) (oi := _) (v := ?v36) rfl (by kernel_rfl) (by kernel_rfl) (by kernel_rfl) (fun _ _ _ h => h) (Or.inl ⟨by rfl, ?hy36⟩) (by assumption) ?rest36
      case hy36 => ((intro w hSw; (try dsimp only at hSw); go_simp) <;> with_reducible rfl)
      case' rest36 => try simp only [List.getElem_toArray, List.getElem_cons_zero, List.getElem_cons_succ, Act.put, List.setIfInBounds_toArray, List.set_cons_zero, List.set_cons_succ]
      refine wpAnyH_take (i := 25) (oi := _) (v := ?v37) rfl (by kernel_rfl) (by kernel_rfl) (by kernel_rfl) (fun _ _ _ h => h) (Or.inl ⟨by rfl, ?hy37⟩) (by assumption) ?rest37
      case hy37 => ((intro w hSw; (try dsimp only at hSw); go_simp) <;> with_reducible rfl)
      case' rest37 => try simp only [List.getElem_toArray, List.getElem_cons_zero, List.getElem_cons_succ, Act.put, List.setIfInBounds_toArray, List.set_cons_zero, List.set_cons_succ]
      refine wpAnyH_take (i := 26) (oi := _) (v := ?v38) rfl (by kernel_rfl) (by kernel_rfl) (by kernel_rfl) (fun _ _ _ h => h) (Or.inl ⟨by rfl, ?hy38⟩) (by assumption) ?rest38
      case hy38 => ((intro w hSw; (try dsimp only at hSw); go_simp) <;> with_reducible rfl)
      case' rest38 => try simp only [List.getElem_toArray, List.getElem_cons_zero, List.getElem_cons_succ, Act.put, List.setIfInBounds_toArray, List.set_cons_zero, List.set_cons_succ]
      refine wpAnyH_take (i := 27) (oi := _) (v := ?v39) rfl (by kernel_rfl) (by kernel_rfl) (by kernel_rfl) (fun _ _ _ h => h) (Or.inl ⟨by rfl, ?hy39⟩) (by assumption) ?rest39
      case hy39 => ((intro w hSw; (try dsimp only at hSw); go_simp) <;> with_reducible rfl)
      case' rest39 => try simp only [List.getElem_toArray, List.getElem_cons_zero, List.getElem_cons_succ, Act.put, List.setIfInBounds_toArray, List.set_cons_zero, List.set_cons_succ]
      refine wpAnyH_ready (rs := [28]) (by kernel_rfl) (by simp) ?_
      refine AllReadyH.cons (o := _) rfl (fun K hK => ?_) AllReadyH.nil
      go_simp
      refine (HS2.out _ _ _ HZ.out.2.1).mono ?_
      rintro e w5 ⟨rfl, hb⟩
      try dsimp only
      refine hK.out _ _ ?hS42 (fun hHeld => ?rest42)
      case hS42 => ((try dsimp only); (exact ⟨⟨(HZ.out.2.1.below hb).box.cell 0 rfl, (hb.cell (lt_of_cell HZ.out.1.2)).trans HZ.out.1.2⟩, HZ.out.2.1.below hb, HZ.out.2.2.below hb⟩))
      case' rest42 => (clear hK K; try simp only [List.getElem_toArray, List.getElem_cons_zero, List.getElem_cons_succ, Act.put, List.setIfInBounds_toArray, List.set_cons_zero, List.set_cons_succ])
      clear HZ hb
      have HZ := hide hHeld
      clear hHeld
      refine wpAnyH_take (i := 29) (oi := _) (v := ?v43) rfl (by kernel_rfl) (by kernel_rfl) (by kernel_rfl) (fun _ _ _ h => h) (Or.inl ⟨by rfl, ?hy43⟩) (by assumption) ?rest43
      case hy43 => ((intro w hSw; (try dsimp only at hSw); go_simp) <;> with_reducible rfl)
      case' rest43 => try simp only [List.getElem_toArray, List.getElem_cons_zero, List.getElem_cons_succ, Act.put, List.setIfInBounds_toArray, List.set_cons_zero, List.set_cons_succ]
      refine wpAnyH_take (i := 30) (oi := _) (v := ?v44) rfl (by kernel_rfl) (by kernel_rfl) (by kernel_rfl) (fun _ _ _ h => h) (Or.inl ⟨by rfl, ?hy44⟩) (by assumption) ?rest44
      case hy44 => ((intro w hSw; (try dsimp only at hSw); go_simp) <;> with_reducible rfl)
      case' rest44 => try simp only [List.getElem_toArray, List.getElem_cons_zero, List.getElem_cons_succ, Act.put, List.setIfInBounds_toArray, List.set_cons_zero, List.set_cons_succ]
      refine wpAnyH_take (i := 31) (oi := _) (v := ?v45) rfl (by kernel_rfl) (by kernel_rfl) (by kernel_rfl) (fun _ _ _ h => h) (Or.inl ⟨by rfl, ?hy45⟩) (by assumption) ?rest45
      case hy45 => ((intro w hSw; (try dsimp only at hSw); go_simp) <;> with_reducible rfl)
      case' rest45 => try simp only [List.getElem_toArray, List.getElem_cons_zero, List.getElem_cons_succ, Act.put, List.setIfInBounds_toArray, List.set_cons_zero, List.set_cons_succ]
      refine wpAnyH_take (i := 32) (oi := _) (v := ?v46) rfl (by kernel_rfl) (by kernel_rfl) (by kernel_rfl) (fun _ _ _ h => h) (Or.inl ⟨by rfl, ?hy46⟩) (by assumption) ?rest46
      case hy46 => ((intro w hSw; (try dsimp only at hSw); go_simp) <;> with_reducible rfl)
      case' rest46 => try simp only [List.getElem_toArray, List.getElem_cons_zero, List.getElem_cons_succ, Act.put, List.setIfInBounds_toArray, List.set_cons_zero, List.set_cons_succ]
      refine wpAnyH_take (i := 34) (oi := _) (v := ?v47) rfl (by kernel_rfl) (by kernel_rfl) (by kernel_rfl) (fun _ _ _ h => h) (Or.inl ⟨by rfl, ?hy47⟩) (by assumption) ?rest47
      case hy47 => ((intro w hSw; (try dsimp only at hSw); go_simp) <;> with_reducible rfl)
      case' rest47 => try simp only [List.getElem_toArray, List.getElem_cons_zero, List.getElem_cons_succ, Act.put, List.setIfInBounds_toArray, List.set_cons_zero, List.set_cons_succ]
      refine wpAnyH_take (i := 37) (oi := _) (v := ?v48) rfl (by kernel_rfl) (by kernel_rfl) (by kernel_rfl) (fun _ _ _ h => h) (Or.inl ⟨by rfl, ?hy48⟩) (by assumption) ?rest48
      case hy48 => ((intro w hSw; (try dsimp only at hSw); go_simp) <;> with_reducible rfl)
      case' rest48 => try simp only [List.getElem_toArray, List.getElem_cons_zero, List.getElem_cons_succ, Act.put, List.setIfInBounds_toArray, List.set_cons_zero, List.set_cons_succ]
      refine wpAnyH_ready (rs := [33]) (by kernel_rfl) (by simp) ?_
      refine AllReadyH.cons (o := _) rfl (fun K hK => ?_) AllReadyH.nil
      go_simp
      refine (HSa.out _ _ _ HZ.out.2.1).mono ?_
      rintro e w5 ⟨rfl, hb⟩
      try dsimp only
      refine hK.out _ _ ?hS51 (fun hHeld => ?rest51)
      case hS51 => ((try dsimp only); (exact ⟨⟨(HZ.out.2.1.below hb).box.cell 0 rfl, (hb.cell (lt_of_cell HZ.out.1.2)).trans HZ.out.1.2⟩, HZ.out.2.1.below hb, HZ.out.2.2.below hb⟩))
      case' rest51 => (clear hK K; try simp only [List.getElem_toArray, List.getElem_cons_zero, List.getElem_cons_succ, Act.put, List.setIfInBounds_toArray, List.set_cons_zero, List.set_cons_succ])
      clear HZ hb
      have HZ := hide hHeld
      clear hHeld
      refine wpAnyH_ready (rs := [35]) (by kernel_rfl) (by simp) ?_
      refine AllReadyH.cons (o := _) rfl (fun K hK => ?_) AllReadyH.nil
      go_simp
      refine (HCh.out _ HZ.out.2.2).mono ?_
      rintro e w5 ⟨rfl, hb⟩
      try dsimp only
      refine hK.out _ _ ?hS54 (fun hHeld => ?rest54)
      case hS54 => ((try dsimp only); (exact ⟨⟨(HZ.out.2.1.below hb).box.cell 0 rfl, (hb.cell (lt_of_cell HZ.out.1.2)).trans HZ.out.1.2⟩, HZ.out.2.1.below hb, HZ.out.2.2.below hb⟩))
      case' rest54 => (clear hK K; try simp only [List.getElem_toArray, List.getElem_cons_zero, List.getElem_cons_succ, Act.put, List.setIfInBounds_toArray, List.set_cons_zero, List.set_cons_succ])
      clear HZ hb
      have HZ := hide hHeld
      clear hHeld
      refine wpAnyH_take (i := 36) (oi := _) (v := ?v55) rfl (by kernel_rfl) (by kernel_rfl) (by kernel_rfl) (fun _ _ _ h => h) (Or.inl ⟨by rfl, ?hy55⟩) (by assumption) ?rest55
      case hy55 => ((intro w hSw; (try dsimp only at hSw); go_simp) <;> with_reducible rfl)
      case' rest55 => try simp only [List.getElem_toArray, List.getElem_cons_zero, List.getElem_cons_succ, Act.put, List.setIfInBounds_toArray, List.set_cons_zero, List.set_cons_succ]
      refine wpAnyH_take (i := 38) (oi := _) (v := ?v56) rfl (by kernel_rfl) (by kernel_rfl) (by kernel_rfl) (fun _ _ _ h => h) (Or.inl ⟨by rfl, ?hy56⟩) (by assumption) ?rest56
      case hy56 => ((intro w hSw; (try dsimp only at hSw); go_simp) <;> with_reducible rfl)
      case' rest56 => try simp only [List.getElem_toArray, List.getElem_cons_zero, List.getElem_cons_succ, Act.put, List.setIfInBounds_toArray, List.set_cons_zero, List.set_cons_succ]
      refine wpAnyH_take (i := 39) (oi := _) (v := ?v57) rfl (by kernel_rfl) (by kernel_rfl) (by kernel_rfl) (fun _ _ _ h => h) (Or.inl ⟨by rfl, ?hy57⟩) (by assumption) ?rest57
      case hy57 => ((intro w hSw; (try dsimp only at hSw); go_simp) <;> with_reducible rfl)
      case' rest57 => try simp only [List.getElem_toArray, List.getElem_cons_zero, List.getElem_cons_succ, Act.put, List.setIfInBounds_toArray, List.set_cons_zero, List.set_cons_succ]
      refine wpAnyH_take (i := 40) (oi := _) (v := ?v58) rfl (by kernel_rfl) (by kernel_rfl) (by kernel_rfl) (fun _ _ _ h => h) (Or.inl ⟨by rfl, ?hy58⟩) (by assumption) ?rest58
      case hy58 => ((intro w hSw; (try dsimp only at hSw); go_simp) <;> with_reducible rfl)
      case' rest58 => try simp only [List.getElem_toArray, List.getElem_cons_zero, List.getElem_cons_succ, Act.put, List.setIfInBounds_toArray, List.set_cons_zero, List.set_cons_succ]
      refine wpAnyH_take (i := 41) (oi := _) (v := ?v59) rfl (by kernel_rfl) (by kernel_rfl) (by kernel_rfl) (fun _ _ _ h => h) (Or.inl ⟨by rfl, ?hy59⟩) (by assumption) ?rest59
      case hy59 => ((intro w hSw; (try dsimp only at hSw); go_simp) <;> with_reducible rfl)
      case' rest59 => try simp only [List.getElem_toArray, List.getElem_cons_zero, List.getElem_cons_succ, Act.put, List.setIfInBounds_toArray, List.set_cons_zero, List.set_cons_succ]
      refine wpAnyH_ready (rs := [42]) (by kernel_rfl) (by simp) ?_
      refine AllReadyH.cons (o := _) rfl (fun K hK => ?_) AllReadyH.nil
      go_simp
      refine (HLa.out _ _ _ HZ.out.2.1).mono ?_
      rintro e w5 ⟨rfl, hb⟩
      try dsimp only
      refine hK.out _ _ ?hS62 (fun hHeld => ?rest62)
      case hS62 => ((try dsimp only); (exact ⟨⟨(HZ.out.2.1.below hb).box.cell 0 rfl, (hb.cell (lt_of_cell HZ.out.1.2)).trans HZ.out.1.2⟩, HZ.out.2.1.below hb, HZ.out.2.2.below hb⟩))
      case' rest62 => (clear hK K; try simp only [List.getElem_toArray, List.getElem_cons_zero, List.getElem_cons_succ, Act.put, List.setIfInBounds_toArray, List.set_cons_zero, List.set_cons_succ])
      clear HZ hb
      have HZ := hide hHeld
      clear hHeld
      refine wpAnyH_take (i := 43) (oi := _) (v := ?v63) rfl (by kernel_rfl) (by kernel_rfl) (by kernel_rfl) (fun _ _ _ h => h) (Or.inl ⟨by rfl, ?hy63⟩) (by assumption) ?rest63
      case hy63 => ((intro w hSw; (try dsimp only at hSw); go_simp) <;> with_reducible rfl)
      case' rest63 => try simp only [List.getElem_toArray, List.getElem_cons_zero, List.getElem_cons_succ, Act.put, List.setIfInBounds_toArray, List.set_cons_zero, List.set_cons_succ]
      refine wpAnyH_take (i := 44) (oi := _) (v := ?v64) rfl (by kernel_rfl) (by kernel_rfl) (by kernel_rfl) (fun _ _ _ h => h) (Or.inl ⟨by rfl, ?hy64⟩) (by assumption) ?rest64
      case hy64 => ((intro w hSw; (try dsimp only at hSw); go_simp) <;> with_reducible rfl)
      case' rest64 => try simp only [List.getElem_toArray, List.getElem_cons_zero, List.getElem_cons_succ, Act.put, List.setIfInBounds_toArray, List.set_cons_zero, List.set_cons_succ]
      have hHeld := HZ.out
      refine wpAnyH_done (by kernel_rfl) ?_ _
      have hEnd := hHeld.2
      repeat (clear hHeld)
      go_wp2_with fail
      go_ret
      exact (⟨rfl, HZ.out.2.1.be⟩ : TrueB w _ _)
    · obtain ⟨m, rfl⟩ : ∃ m, k = m + 1 := ⟨k - 1, by omega⟩
      obtain rfl : z = (m : Nat) := by omega
      have hmL : m < L.length := by rw [← HN.out]; exact hk
      obtain ⟨b, off, rfl, c0⟩ := at_cv (HS.out.below HK.out.2.2.1) hmL
      have HU := hide (fun W (h : Below wr.heap.size wr W) => oth_under a L c t m (.iface tt x) W hmL HL.out (show OthC W a L c t (m + 1) (.iface tt x) from Ch.below h HK.out.2.1))
      obtain ⟨d, hd⟩ : ∃ d, d = L.getD m 0 := ⟨_, rfl⟩
      rw [← hd] at HU c0
      clear hd hmL hz
      have x1 := HK.out.1.cell 0 (u := .iface tt x) rfl
      have hmn : m < n := hk
      obtain ⟨i1, i2, i3⟩ := idx_at hmn
      go_wp2_with fail
      refine wp_region_T (fun w' => w'.cell? ⟨p1, 0, none⟩ = some (.iface tt x) ∧ w'.cell? ⟨b, off + m, none⟩ = some (.int .u32 (d : Nat))) [0, 1, 2, 3, 4, 5] (by kernel_rfl) ?hS66 (fun hHeld => ?rest66)
      case hS66 => ((try dsimp only); exact ⟨x1, c0⟩)
      case' rest66 => skip
      refine wpAnyT_take (by kernel_rfl) (by kernel_rfl) (i := 0) (oi := _) (v := ?v67) rfl (by kernel_rfl) (by kernel_rfl) (by kernel_rfl) (fun _ _ _ h => h) (Or.inl ⟨by rfl, ?hy67⟩) (by assumption) ?rest67
      case hy67 => ((intro w hSw; (try dsimp only at hSw); go_simp) <;> with_reducible rfl)
      case' rest67 => try simp only [List.getElem_toArray, List.getElem_cons_zero, List.getElem_cons_succ, Act.put, List.setIfInBounds_toArray, List.set_cons_zero, List.set_cons_succ]
      refine wpAnyT_take (by kernel_rfl) (by kernel_rfl) (i := 1) (oi := _) (v := ?v68) rfl (by kernel_rfl) (by kernel_rfl) (by kernel_rfl) (fun _ _ _ h => h) (Or.inl ⟨by rfl, ?hy68⟩) (by assumption) ?rest68
      case hy68 => ((intro w hSw; (try dsimp only at hSw); go_simp) <;> with_reducible rfl)
      case' rest68 => try simp only [List.getElem_toArray, List.getElem_cons_zero, List.getElem_cons_succ, Act.put, List.setIfInBounds_toArray, List.set_cons_zero, List.set_cons_succ]
      refine wpAnyT_take (by kernel_rfl) (by kernel_rfl) (i := 2) (oi := _) (v := ?v69) rfl (by kernel_rfl) (by kernel_rfl) (by kernel_rfl) (fun _ _ _ h => h) (Or.inl ⟨by rfl, ?hy69⟩) (by assumption) ?rest69
      case hy69 => ((intro w hSw; (try dsimp only at hSw); go_simp) <;> with_reducible rfl)
      case' rest69 => try simp only [List.getElem_toArray, List.getElem_cons_zero, List.getElem_cons_succ, Act.put, List.setIfInBounds_toArray, List.set_cons_zero, List.set_cons_succ]
      refine wpAnyT_take (by kernel_rfl) (by kernel_rfl) (i := 3) (oi := _) (v := ?v70) rfl (by kernel_rfl) (by kernel_rfl) (by kernel_rfl) (fun _ _ _ h => h) (Or.inl ⟨by rfl, ?hy70⟩) (by assumption) ?rest70
      case hy70 => ((intro w hSw; (try dsimp only at hSw); go_simp) <;> with_reducible rfl)
      case' rest70 => try simp only [List.getElem_toArray, List.getElem_cons_zero, List.getElem_cons_succ, Act.put, List.setIfInBounds_toArray, List.set_cons_zero, List.set_cons_succ]
      refine wpAnyT_take (by kernel_rfl) (by kernel_rfl) (i := 4) (oi := _) (v := ?v71) rfl (by kernel_rfl) (by kernel_rfl) (by kernel_rfl) (fun _ _ _ h => h) (Or.inl ⟨by rfl, ?hy71⟩) (by assumption) ?rest71
      case hy71 => ((intro w hSw; (try dsimp only at hSw); go_simp) <;> with_reducible rfl)
      case' rest71 => try simp only [List.getElem_toArray, List.getElem_cons_zero, List.getElem_cons_succ, Act.put, List.setIfInBounds_toArray, List.set_cons_zero, List.set_cons_succ]
      refine wpAnyT_one (i := 5) (o := _) rfl (by kernel_rfl) (fun K hK => ?_)
      go_simp
      refine (HU.out _ (below_drew1 (Below.refl _ _))).mono ?_
      rintro e' w1 ⟨tt', x', rfl, hW1, hb1⟩
      have HB1 : Hid (Below wr.heap.size wr w1) := hide (below_step hb1 (below_drew1 (Below.refl _ _)))
      have HW1 := hide hW1
      have y1 := (HB1.out.cell (lt_of_cell x1)).trans x1
      have y0 := (HB1.out.cell (lt_of_cell c0)).trans c0
      have f1 := (HK.out.1.below HB1.out HK.out.1.lt).frozen 0
      clear hW1 hb1
      try dsimp only
      refine hK.out _ _ ?hS73 (fun hHeld => ?rest73)
      case hS73 => ((try dsimp only); (exact ⟨y1, y0⟩))
      case' rest73 => (clear hK K; try simp only [List.getElem_toArray, List.getElem_cons_zero, List.getElem_cons_succ, Act.put, List.setIfInBounds_toArray, List.set_cons_zero, List.set_cons_succ])
      refine wpAnyT_late (i := 6) (o := _) rfl (by kernel_rfl) (by kernel_rfl) (fun K hK => ?_)
      go_simp
      refine hK.out _ _ ?rest75
      case' rest75 => (clear hK K; try simp only [List.getElem_toArray, List.getElem_cons_zero, List.getElem_cons_succ, Act.put, List.setIfInBounds_toArray, List.set_cons_zero, List.set_cons_succ])
      refine wpAnyT_done (by kernel_rfl) ?_ _
      repeat (clear hHeld)
      go_wp2_with fail
      go_roundw
      case rel =>
        have q1 := HK.out.1.below HB1.out HK.out.1.lt
        have hpb := HK.out.2.2.2
        exact ⟨m, _, tt', x', by omega, rfl, by omega, hide ⟨q1.set_ 0 _, HW1.out.set0 q1 _, below_set (below_step HB1.out HK.out.2.2.1) (p := ⟨p1, 0, none⟩) (by show w.heap.size ≤ p1; omega) _, hpb⟩⟩
      case measure => simp [intOf]
end Go.Proofs.YtkhbcmkcjnnejaaDoor
