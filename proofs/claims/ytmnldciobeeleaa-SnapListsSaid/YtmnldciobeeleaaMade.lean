/- Law 18's made: a dictionary, and what it must be. -/
import Derived.Test.YtmnldciobeeleaaTwoD
import Derived.Test.YtmnldciobeeleaaDicN
import Derived.Test.YtmnldciobeeleaaDicD
import Derived.Test.YtmnldciobeeleaaRDicN
import Derived.Test.YtmnldciobeeleaaRLig
import Derived.Test.YtmnldciobeeleaaRef18S
namespace Go.Proofs.Ytmnldciobeeleaa
set_option linter.unusedVariables false
set_option linter.unusedSimpArgs false
set_option linter.unnecessarySimpa false
open Go.RowKit
set_option maxRecDepth 100000
set_option maxHeartbeats 4000000
/-- all values poked, one behind the other -/
def pokeAll (L : List Ent) (V : List (List UInt8)) (X : List SV) : List (List UInt8) := X.foldl (fun V v => putV L V v.ix v.sub v.data true) V
theorem pokeAll_take {L : List Ent} {V : List (List UInt8)} {X : List SV} {k : Nat} {v : SV} (h : X[k]? = some v) : pokeAll L V (X.take (k + 1)) = putV L (pokeAll L V (X.take k)) v.ix v.sub v.data true := by
  obtain ⟨hk, rfl⟩ := List.getElem?_eq_some_iff.1 h
  unfold pokeAll
  rw [List.take_succ_eq_append_getElem hk, List.foldl_append]
  rfl
theorem lightB_fit {X : List SV} (h : lightB X = true) : X.length ≤ 200 ∧ ∀ v ∈ X, v.data.length ≤ 2000 := of_decide_eq_true h
theorem only_undrew' {F : Nat → Prop} {w w' : World} (h : Only F w.drew w') : Only F w w' := ⟨h.os, h.tape, h.output, h.size, h.block⟩
theorem new_sorted' {L : List Ent} {a : Int} (h : NewP L 0 a) : SortedE L := by
  rcases h with ⟨_, h, _⟩ | ⟨_, h, _⟩ | ⟨_, _, _, h⟩
  · omega
  · exact absurd rfl h
  · exact sorted_of _ L rfl h
def MadeR (L : List Ent) (X : List SV) (w : World) (e : Ending) (w' : World) : Prop :=
  ∃ vd vr ok, e = .returned (.tuple #[vd, vr, .bool ok]) ∧ (ok = true → ∃ p pr, vd = .pointer (some ⟨p, 0, none⟩) ∧ vr = .pointer (some ⟨pr, 0, none⟩) ∧ TwoD w.heap.size (fun _ => False) L (pokeAll L (L.map Ent.df) X) pr w' p ∧ SortedE L ∧ lightL L = true ∧ lightB X = true ∧ ∀ E ∈ L, rightE E = 0) ∧
    (ok = false → vd = .pointer none ∧ vr = .pointer none) ∧ Below w.heap.size w w'
theorem made_any (A : Option Addr) (n c : Nat) (L : List Ent) (A2 : Option Addr) (m c2 : Nat) (X : List SV) (w : World) (hn : n = L.length) (hL : SlE w A L) (hm : m = X.length) (hc2 : m ≤ c2) (hX : SlV w A2 X) :
    Calls Try.prog 6 #[.agg #[.slice A n c, .slice A2 m c2]] w (MadeR L X w) := by
  have q := blk_one w 25 #[.slice A n c, .slice A2 m c2]
  have hbw := below_alloc (Below.refl w.heap.size w) (.cells #[.slice A n c, .slice A2 m c2] 25)
  have HN := hide hn
  have HL0 := hide hL
  have HL := hide (hL.below hbw)
  have HM := hide hm
  have HX := hide (hX.below hbw)
  have HX0 := hide hX
  have HC2 := hide hc2
  have HQ := hide q
  clear hn hL hm hX hc2
  have fin0 : ∀ W, Below w.heap.size w W → MadeR L X w (.returned (.tuple #[.pointer none, .pointer none, .bool false])) W := fun W h => ⟨_, _, false, rfl, fun h => (by cases h), fun _ => ⟨rfl, rfl⟩, h⟩
  have F0 := hide fin0
  clear fin0
  obtain ⟨q_c0, q_c1⟩ := cel2 q
  have q_f := q.frozen
  cases hli : lightL L
  · have HLI := hide hli
    clear hli
    go_enter Try.func6, Try.ntmps6
    go_wp2_with fail
    refine (rlight A n c L _ HN.out HL.out).mono ?_
    rintro e w1 ⟨rfl, rfl⟩
    rw [HLI.out]
    go_wp2_with fail
    go_ret3
    exact F0.out _ hbw
  have HLI := hide hli
  have HFT := hide (light_fit hli)
  have h200 : n ≤ 200 := by rw [HN.out]; exact light_len hli
  clear hli
  cases hlx : lightB X
  · have HLX := hide hlx
    clear hlx
    go_enter Try.func6, Try.ntmps6
    go_wp2_with fail
    refine (rlight A n c L _ HN.out HL.out).mono ?_
    rintro e w1 ⟨rfl, rfl⟩
    rw [HLI.out]
    go_wp2_with fail
    refine (light_any A2 m c2 X _ HM.out HC2.out HX.out).mono ?_
    rintro e w1 ⟨rfl, rfl⟩
    rw [HLX.out]
    go_wp2_with fail
    go_ret3
    exact F0.out _ hbw
  have HLX := hide hlx
  have HFX := hide (lightB_fit hlx)
  have hm200 : m ≤ 200 := by rw [HM.out]; exact (lightB_fit hlx).1
  clear hlx
  go_enter Try.func6, Try.ntmps6
  go_wp2_with fail
  refine (rlight A n c L _ HN.out HL.out).mono ?_
  rintro e w1 ⟨rfl, rfl⟩
  rw [HLI.out]
  go_wp2_with fail
  refine (light_any A2 m c2 X _ HM.out HC2.out HX.out).mono ?_
  rintro e w1 ⟨rfl, rfl⟩
  rw [HLX.out]
  go_wp2_with fail
  refine (dict_new A n c L _ HN.out HL.out HFT.out).mono ?_
  rintro e w2 ⟨v, er, at_, rfl, hnp, h2, h3, hb2⟩
  have hb12 := below_step hb2 hbw
  have HQ2 := hide (HQ.out.below hb2 HQ.out.lt)
  have q2 := HQ2.out
  clear q_c0 q_c1 q_f
  obtain ⟨q2_c0, q2_c1⟩ := cel2 q2
  have q2_f := q2.frozen
  go_wp2_with fail
  refine (rdic_new A n c L _ HN.out (HL.out.below hb2) HFT.out).mono ?_
  rintro e w3 ⟨pr, er', at', rfl, hnp', h3', hb3⟩
  obtain ⟨rfl, rfl⟩ := new_one hnp' hnp
  have hb13 := below_step hb3 hb12
  have HQ3 := hide (HQ2.out.below hb3 HQ2.out.lt)
  have q3 := HQ3.out
  clear q2_c0 q2_c1 q2_f
  by_cases her : er' = 0
  · subst her
    obtain ⟨p, gl, n', cl, Av, cv, ds, es, rfl, hn', hD⟩ := h3 rfl
    obtain ⟨Al2, n2, cl2, Av2, cv2, ds2, es2, hn2, hD2⟩ := h3' rfl
    have HS : Hid (SortedE L) := hide (new_sorted' hnp)
    have HR : Hid (∀ E ∈ L, rightE E = 0) := hide (by
      intro E hE
      obtain ⟨k, hk, rfl⟩ := List.getElem_of_mem hE
      rcases hnp with ⟨_, h, _⟩ | ⟨_, h, _⟩ | ⟨_, _, _, h⟩
      · omega
      · exact absurd rfl h
      · exact rightE_zero (List.getElem?_eq_getElem hk) (h k hk))
    have z0 := hbw.size
    have z2 := hb2.size
    have z3 := hb3.size
    have zq := HQ.out.lt
    have hT : TwoD w.heap.size (fun g => g = w.heap.size) L (L.map Ent.df) pr w3 p := by
      have e1 : n2 = n' := hn2.trans hn'.symm
      subst e1
      refine ⟨fun g => (w.alloc (.cells #[.slice A n c, .slice A2 m c2] 25)).heap.size ≤ g ∧ g < w2.heap.size, fun g => w2.heap.size ≤ g ∧ g < w3.heap.size, gl, n2, cl, Av, cv, ds, es, Al2, cl2, Av2, cv2, ds2, es2, ⟨hn2, (hD.mono (G := fun g => (w.alloc (.cells #[.slice A n c, .slice A2 m c2] 25)).heap.size ≤ g ∧ g < w2.heap.size) (fun g h1 h2 => ⟨h2, h1⟩)).below hb3, hD2.mono (fun g h1 h2 => ⟨h2, h1⟩), ?_, ?_, ?_⟩⟩
      · rintro g ⟨h1, h2⟩; exact ⟨by omega, by omega, by omega⟩
      · rintro g ⟨h1, h2⟩; exact ⟨by omega, by omega, by omega⟩
      · rintro g ⟨h1, h2⟩ ⟨h3, h4⟩; omega
    have HT : Hid (TwoD w.heap.size (fun g => g = w.heap.size) L (pokeAll L (L.map Ent.df) (X.take 0)) pr w3 p) := hide hT
    clear h2 h3 h3' hnp hnp' hD hD2 hn' hn2 hT z0 z2 z3 zq
    go_wp2_with fail
    go_loopw [11] (fun i wr => ∃ k, k ≤ m ∧ i = .int .i64 (k : Nat) ∧ Hid (TwoD w.heap.size (fun g => g = w.heap.size) L (pokeAll L (L.map Ent.df) (X.take k)) pr wr p) ∧ Hid (Blk wr w.heap.size 25 #[.slice A n c, .slice A2 m c2]) ∧ Below w.heap.size w wr) (fun i _ => m - (intOf i).toNat)
    case atStart => exact ⟨0, by omega, rfl, HT, HQ3, hb13⟩
    case round =>
      clear HT hb13 q3
      obtain ⟨k, hk, rfl, HT, HQr, hbr⟩ := hrel
      have qr := HQr.out
      obtain ⟨qr_c0, qr_c1⟩ := cel2 qr
      have qr_f := qr.frozen
      by_cases hlt : k < m
      · obtain ⟨v, hv⟩ : ∃ v, X[k]? = some v := ⟨X[k]'(by rw [← HM.out]; exact hlt), List.getElem?_eq_getElem _⟩
        obtain ⟨b, off, Aj, cj, rfl, c0, c1, c2', hcj, hsj⟩ := HX0.out k v hv
        have zb := lt_of_cell c0
        simp only [] at zb
        have HV := hide hv
        have HSJ := hide hsj
        have HCJ := hide hcj
        have hvd : v.data.length ≤ 35184372088832 := by have := (HFX.out.2 v (List.mem_of_getElem? hv)); omega
        have HVD := hide hvd
        obtain ⟨Fd, Fr, gl1, n1, cl1, Av1, cv1, ds1, es1, Al3, cl3, Av3, cv3, ds3, es3, T⟩ := HT.out
        have HTT := hide T
        have h8 : n1 ≤ 1000 := by rw [T.hn, ← HN.out]; omega
        have H8 := hide h8
        obtain ⟨i1, i2, i3⟩ := idx_at hlt
        have d0 := (hbr.cell (p := ⟨b, off + k * 3, none⟩) zb).trans c0
        have d1 := (hbr.cell (p := ⟨b, off + k * 3 + 1, none⟩) zb).trans c1
        have d2 := (hbr.cell (p := ⟨b, off + k * 3 + 2, none⟩) zb).trans c2'
        clear hv hsj hcj hvd T h8
        go_wp2_with fail
        refine wp_region_held_drew (S := (fun w' => w'.cell? ⟨w.heap.size, 1, none⟩ = some (.slice (some ⟨b, off, none⟩) m c2) ∧ w'.cell? ⟨b, off + k * 3, none⟩ = some (.int .i64 v.ix) ∧ w'.cell? ⟨b, off + k * 3 + 1, none⟩ = some (.int .i64 v.sub) ∧ w'.cell? ⟨b, off + k * 3 + 2, none⟩ = some (.slice Aj v.data.length cj))) (by kernel_rfl) ?hS1 (fun hHeld => ?rest1)
        case hS1 => ((try dsimp only); (exact ⟨HQr.out.cell 1 rfl, (hbr.cell (p := ⟨b, off + k * 3, none⟩) zb).trans c0, (hbr.cell (p := ⟨b, off + k * 3 + 1, none⟩) zb).trans c1, (hbr.cell (p := ⟨b, off + k * 3 + 2, none⟩) zb).trans c2'⟩))
        case' rest1 => skip
        refine wpAnyH_take (i := 0) (oi := _) (v := ?v2) rfl (by kernel_rfl) (by kernel_rfl) (by kernel_rfl) (fun _ _ _ h => h) (Or.inl ⟨by rfl, ?hy2⟩) (by assumption) ?rest2
        case hy2 => ((intro w hSw; (try dsimp only at hSw); go_simp) <;> with_reducible rfl)
        case' rest2 => try simp only [List.getElem_toArray, List.getElem_cons_zero, List.getElem_cons_succ, Act.put, List.setIfInBounds_toArray, List.set_cons_zero, List.set_cons_succ]
        refine wpAnyH_take (i := 1) (oi := _) (v := ?v3) rfl (by kernel_rfl) (by kernel_rfl) (by kernel_rfl) (fun _ _ _ h => h) (Or.inl ⟨by rfl, ?hy3⟩) (by assumption) ?rest3
        case hy3 => ((intro w hSw; (try dsimp only at hSw); go_simp) <;> with_reducible rfl)
        case' rest3 => try simp only [List.getElem_toArray, List.getElem_cons_zero, List.getElem_cons_succ, Act.put, List.setIfInBounds_toArray, List.set_cons_zero, List.set_cons_succ]
        refine wpAnyH_take (i := 2) (oi := _) (v := ?v4) rfl (by kernel_rfl) (by kernel_rfl) (by kernel_rfl) (fun _ _ _ h => h) (Or.inl ⟨by rfl, ?hy4⟩) (by assumption) ?rest4
        case hy4 => ((intro w hSw; (try dsimp only at hSw); go_simp) <;> with_reducible rfl)
        case' rest4 => try simp only [List.getElem_toArray, List.getElem_cons_zero, List.getElem_cons_succ, Act.put, List.setIfInBounds_toArray, List.set_cons_zero, List.set_cons_succ]
        refine wpAnyH_take (i := 3) (oi := _) (v := ?v5) rfl (by kernel_rfl) (by kernel_rfl) (by kernel_rfl) (fun _ _ _ h => h) (Or.inl ⟨by rfl, ?hy5⟩) (by assumption) ?rest5
        case hy5 => ((intro w hSw; (try dsimp only at hSw); go_simp) <;> with_reducible rfl)
        case' rest5 => try simp only [List.getElem_toArray, List.getElem_cons_zero, List.getElem_cons_succ, Act.put, List.setIfInBounds_toArray, List.set_cons_zero, List.set_cons_succ]
        refine wpAnyH_take (i := 4) (oi := _) (v := ?v6) rfl (by kernel_rfl) (by kernel_rfl) (by kernel_rfl) (fun _ _ _ h => h) (Or.inl ⟨by rfl, ?hy6⟩) (by assumption) ?rest6
        case hy6 => ((intro w hSw; (try dsimp only at hSw); go_simp) <;> with_reducible rfl)
        case' rest6 => try simp only [List.getElem_toArray, List.getElem_cons_zero, List.getElem_cons_succ, Act.put, List.setIfInBounds_toArray, List.set_cons_zero, List.set_cons_succ]
        refine wpAnyH_take (i := 5) (oi := _) (v := ?v7) rfl (by kernel_rfl) (by kernel_rfl) (by kernel_rfl) (fun _ _ _ h => h) (Or.inl ⟨by rfl, ?hy7⟩) (by assumption) ?rest7
        case hy7 => ((intro w hSw; (try dsimp only at hSw); go_simp) <;> with_reducible rfl)
        case' rest7 => try simp only [List.getElem_toArray, List.getElem_cons_zero, List.getElem_cons_succ, Act.put, List.setIfInBounds_toArray, List.set_cons_zero, List.set_cons_succ]
        refine wpAnyH_take (i := 6) (oi := _) (v := ?v8) rfl (by kernel_rfl) (by kernel_rfl) (by kernel_rfl) (fun _ _ _ h => h) (Or.inl ⟨by rfl, ?hy8⟩) (by assumption) ?rest8
        case hy8 => ((intro w hSw; (try dsimp only at hSw); go_simp) <;> with_reducible rfl)
        case' rest8 => try simp only [List.getElem_toArray, List.getElem_cons_zero, List.getElem_cons_succ, Act.put, List.setIfInBounds_toArray, List.set_cons_zero, List.set_cons_succ]
        refine wpAnyH_take (i := 7) (oi := _) (v := ?v9) rfl (by kernel_rfl) (by kernel_rfl) (by kernel_rfl) (fun _ _ _ h => h) (Or.inl ⟨by rfl, ?hy9⟩) (by assumption) ?rest9
        case hy9 => ((intro w hSw; (try dsimp only at hSw); go_simp) <;> with_reducible rfl)
        case' rest9 => try simp only [List.getElem_toArray, List.getElem_cons_zero, List.getElem_cons_succ, Act.put, List.setIfInBounds_toArray, List.set_cons_zero, List.set_cons_succ]
        refine wpAnyH_take (i := 8) (oi := _) (v := ?v10) rfl (by kernel_rfl) (by kernel_rfl) (by kernel_rfl) (fun _ _ _ h => h) (Or.inl ⟨by rfl, ?hy10⟩) (by assumption) ?rest10
        case hy10 => ((intro w hSw; (try dsimp only at hSw); go_simp) <;> with_reducible rfl)
        case' rest10 => try simp only [List.getElem_toArray, List.getElem_cons_zero, List.getElem_cons_succ, Act.put, List.setIfInBounds_toArray, List.set_cons_zero, List.set_cons_succ]
        refine wpAnyH_take (i := 9) (oi := _) (v := ?v11) rfl (by kernel_rfl) (by kernel_rfl) (by kernel_rfl) (fun _ _ _ h => h) (Or.inl ⟨by rfl, ?hy11⟩) (by assumption) ?rest11
        case hy11 => ((intro w hSw; (try dsimp only at hSw); go_simp) <;> with_reducible rfl)
        case' rest11 => try simp only [List.getElem_toArray, List.getElem_cons_zero, List.getElem_cons_succ, Act.put, List.setIfInBounds_toArray, List.set_cons_zero, List.set_cons_succ]
        refine wpAnyH_take (i := 10) (oi := _) (v := ?v12) rfl (by kernel_rfl) (by kernel_rfl) (by kernel_rfl) (fun _ _ _ h => h) (Or.inl ⟨by rfl, ?hy12⟩) (by assumption) ?rest12
        case hy12 => ((intro w hSw; (try dsimp only at hSw); go_simp) <;> with_reducible rfl)
        case' rest12 => try simp only [List.getElem_toArray, List.getElem_cons_zero, List.getElem_cons_succ, Act.put, List.setIfInBounds_toArray, List.set_cons_zero, List.set_cons_succ]
        refine wpAnyH_take (i := 11) (oi := _) (v := ?v13) rfl (by kernel_rfl) (by kernel_rfl) (by kernel_rfl) (fun _ _ _ h => h) (Or.inl ⟨by rfl, ?hy13⟩) (by assumption) ?rest13
        case hy13 => ((intro w hSw; (try dsimp only at hSw); go_simp) <;> with_reducible rfl)
        case' rest13 => try simp only [List.getElem_toArray, List.getElem_cons_zero, List.getElem_cons_succ, Act.put, List.setIfInBounds_toArray, List.set_cons_zero, List.set_cons_succ]
        refine wpAnyH_take (i := 12) (oi := _) (v := ?v14) rfl (by kernel_rfl) (by kernel_rfl) (by kernel_rfl) (fun _ _ _ h => h) (Or.inl ⟨by rfl, ?hy14⟩) (by assumption) ?rest14
        case hy14 => ((intro w hSw; (try dsimp only at hSw); go_simp) <;> with_reducible rfl)
        case' rest14 => try simp only [List.getElem_toArray, List.getElem_cons_zero, List.getElem_cons_succ, Act.put, List.setIfInBounds_toArray, List.set_cons_zero, List.set_cons_succ]
        refine wpAnyH_take (i := 13) (oi := _) (v := ?v15) rfl (by kernel_rfl) (by kernel_rfl) (by kernel_rfl) (fun _ _ _ h => h) (Or.inl ⟨by rfl, ?hy15⟩) (by assumption) ?rest15
        case hy15 => ((intro w hSw; (try dsimp only at hSw); go_simp) <;> with_reducible rfl)
        case' rest15 => try simp only [List.getElem_toArray, List.getElem_cons_zero, List.getElem_cons_succ, Act.put, List.setIfInBounds_toArray, List.set_cons_zero, List.set_cons_succ]
        refine wpAnyH_take (i := 14) (oi := _) (v := ?v16) rfl (by kernel_rfl) (by kernel_rfl) (by kernel_rfl) (fun _ _ _ h => h) (Or.inl ⟨by rfl, ?hy16⟩) (by assumption) ?rest16
        case hy16 => ((intro w hSw; (try dsimp only at hSw); go_simp) <;> with_reducible rfl)
        case' rest16 => try simp only [List.getElem_toArray, List.getElem_cons_zero, List.getElem_cons_succ, Act.put, List.setIfInBounds_toArray, List.set_cons_zero, List.set_cons_succ]
        refine wpAnyH_take (i := 15) (oi := _) (v := ?v17) rfl (by kernel_rfl) (by kernel_rfl) (by kernel_rfl) (fun _ _ _ h => h) (Or.inl ⟨by rfl, ?hy17⟩) (by assumption) ?rest17
        case hy17 => ((intro w hSw; (try dsimp only at hSw); go_simp) <;> with_reducible rfl)
        case' rest17 => try simp only [List.getElem_toArray, List.getElem_cons_zero, List.getElem_cons_succ, Act.put, List.setIfInBounds_toArray, List.set_cons_zero, List.set_cons_succ]
        refine wpAnyH_take (i := 16) (oi := _) (v := ?v18) rfl (by kernel_rfl) (by kernel_rfl) (by kernel_rfl) (fun _ _ _ h => h) (Or.inl ⟨by rfl, ?hy18⟩) (by assumption) ?rest18
        case hy18 => ((intro w hSw; (try dsimp only at hSw); go_simp) <;> with_reducible rfl)
        case' rest18 => try simp only [List.getElem_toArray, List.getElem_cons_zero, List.getElem_cons_succ, Act.put, List.setIfInBounds_toArray, List.set_cons_zero, List.set_cons_succ]
        refine wpAnyH_take (i := 17) (oi := _) (v := ?v19) rfl (by kernel_rfl) (by kernel_rfl) (by kernel_rfl) (fun _ _ _ h => h) (Or.inl ⟨by rfl, ?hy19⟩) (by assumption) ?rest19
        case hy19 => ((intro w hSw; (try dsimp only at hSw); go_simp) <;> with_reducible rfl)
        case' rest19 => try simp only [List.getElem_toArray, List.getElem_cons_zero, List.getElem_cons_succ, Act.put, List.setIfInBounds_toArray, List.set_cons_zero, List.set_cons_succ]
        refine wpAnyH_take (i := 18) (oi := _) (v := ?v20) rfl (by kernel_rfl) (by kernel_rfl) (by kernel_rfl) (fun _ _ _ h => h) (Or.inl ⟨by rfl, ?hy20⟩) (by assumption) ?rest20
        case hy20 => ((intro w hSw; (try dsimp only at hSw); go_simp) <;> with_reducible rfl)
        case' rest20 => try simp only [List.getElem_toArray, List.getElem_cons_zero, List.getElem_cons_succ, Act.put, List.setIfInBounds_toArray, List.set_cons_zero, List.set_cons_succ]
        refine wpAnyH_ready (rs := [19]) (by kernel_rfl) (by simp) ?_
        refine AllReadyH.cons (o := _) rfl (fun K hK => ?_) AllReadyH.nil
        go_simp
        refine (dict_poke v.ix v.sub Aj v.data.length cj v.data _ (HTT.out.d.below (Below.drew (Below.refl _ _))) HS.out H8.out rfl HCJ.out HVD.out (HSJ.out.below hbr.drew)).mono ?_
        rintro e w5 ⟨V5, es5, rfl, hV5, hD5, ho5⟩
        dsimp only
        have HO5 := hide (only_undrew' ho5)
        have HD5 := hide hD5
        have HV5 := hide hV5
        have HQ5 := hide (blk_only HQr.out HO5.out (fun h => (HTT.out.bd _ h).2.2 rfl))
        have hb5 := below_only HO5.out hbr (fun i hi => (HTT.out.bd i hi).1)
        clear ho5 hD5 hV5
        refine hK.out _ _ ?hS23 (fun hHeld => ?rest23)
        case hS23 => ((try dsimp only); (exact ⟨HQ5.out.cell 1 rfl, (hb5.cell (p := ⟨b, off + k * 3, none⟩) zb).trans c0, (hb5.cell (p := ⟨b, off + k * 3 + 1, none⟩) zb).trans c1, (hb5.cell (p := ⟨b, off + k * 3 + 2, none⟩) zb).trans c2'⟩))
        case' rest23 => (clear hK K; try simp only [List.getElem_toArray, List.getElem_cons_zero, List.getElem_cons_succ, Act.put, List.setIfInBounds_toArray, List.set_cons_zero, List.set_cons_succ])
        refine wpAnyH_done (by kernel_rfl) ?_ _
        have hEnd := hHeld.2
        repeat (clear hHeld)
        clear hEnd d0 d1 d2
        clear qr_c0 qr_c1 qr_f
        have q5 := HQ5.out
        obtain ⟨q5_c0, q5_c1⟩ := cel2 q5
        have q5_f := q5.frozen
        have d0 := (hb5.cell (p := ⟨b, off + k * 3, none⟩) zb).trans c0
        have d1 := (hb5.cell (p := ⟨b, off + k * 3 + 1, none⟩) zb).trans c1
        have d2 := (hb5.cell (p := ⟨b, off + k * 3 + 2, none⟩) zb).trans c2'
        go_wp2_with fail
        refine wp_region_held_drew (S := (fun w' => w'.cell? ⟨w.heap.size, 1, none⟩ = some (.slice (some ⟨b, off, none⟩) m c2) ∧ w'.cell? ⟨b, off + k * 3, none⟩ = some (.int .i64 v.ix) ∧ w'.cell? ⟨b, off + k * 3 + 1, none⟩ = some (.int .i64 v.sub) ∧ w'.cell? ⟨b, off + k * 3 + 2, none⟩ = some (.slice Aj v.data.length cj))) (by kernel_rfl) ?hS25 (fun hHeld => ?rest25)
        case hS25 => ((try dsimp only); (exact ⟨HQ5.out.cell 1 rfl, (hb5.cell (p := ⟨b, off + k * 3, none⟩) zb).trans c0, (hb5.cell (p := ⟨b, off + k * 3 + 1, none⟩) zb).trans c1, (hb5.cell (p := ⟨b, off + k * 3 + 2, none⟩) zb).trans c2'⟩))
        case' rest25 => skip
        refine wpAnyH_take (i := 0) (oi := _) (v := ?v26) rfl (by kernel_rfl) (by kernel_rfl) (by kernel_rfl) (fun _ _ _ h => h) (Or.inl ⟨by rfl, ?hy26⟩) (by assumption) ?rest26
        case hy26 => ((intro w hSw; (try dsimp only at hSw); go_simp) <;> with_reducible rfl)
        case' rest26 => try simp only [List.getElem_toArray, List.getElem_cons_zero, List.getElem_cons_succ, Act.put, List.setIfInBounds_toArray, List.set_cons_zero, List.set_cons_succ]
        refine wpAnyH_take (i := 1) (oi := _) (v := ?v27) rfl (by kernel_rfl) (by kernel_rfl) (by kernel_rfl) (fun _ _ _ h => h) (Or.inl ⟨by rfl, ?hy27⟩) (by assumption) ?rest27
        case hy27 => ((intro w hSw; (try dsimp only at hSw); go_simp) <;> with_reducible rfl)
        case' rest27 => try simp only [List.getElem_toArray, List.getElem_cons_zero, List.getElem_cons_succ, Act.put, List.setIfInBounds_toArray, List.set_cons_zero, List.set_cons_succ]
        refine wpAnyH_take (i := 2) (oi := _) (v := ?v28) rfl (by kernel_rfl) (by kernel_rfl) (by kernel_rfl) (fun _ _ _ h => h) (Or.inl ⟨by rfl, ?hy28⟩) (by assumption) ?rest28
        case hy28 => ((intro w hSw; (try dsimp only at hSw); go_simp) <;> with_reducible rfl)
        case' rest28 => try simp only [List.getElem_toArray, List.getElem_cons_zero, List.getElem_cons_succ, Act.put, List.setIfInBounds_toArray, List.set_cons_zero, List.set_cons_succ]
        refine wpAnyH_take (i := 3) (oi := _) (v := ?v29) rfl (by kernel_rfl) (by kernel_rfl) (by kernel_rfl) (fun _ _ _ h => h) (Or.inl ⟨by rfl, ?hy29⟩) (by assumption) ?rest29
        case hy29 => ((intro w hSw; (try dsimp only at hSw); go_simp) <;> with_reducible rfl)
        case' rest29 => try simp only [List.getElem_toArray, List.getElem_cons_zero, List.getElem_cons_succ, Act.put, List.setIfInBounds_toArray, List.set_cons_zero, List.set_cons_succ]
        refine wpAnyH_take (i := 4) (oi := _) (v := ?v30) rfl (by kernel_rfl) (by kernel_rfl) (by kernel_rfl) (fun _ _ _ h => h) (Or.inl ⟨by rfl, ?hy30⟩) (by assumption) ?rest30
        case hy30 => ((intro w hSw; (try dsimp only at hSw); go_simp) <;> with_reducible rfl)
        case' rest30 => try simp only [List.getElem_toArray, List.getElem_cons_zero, List.getElem_cons_succ, Act.put, List.setIfInBounds_toArray, List.set_cons_zero, List.set_cons_succ]
        refine wpAnyH_take (i := 5) (oi := _) (v := ?v31) rfl (by kernel_rfl) (by kernel_rfl) (by kernel_rfl) (fun _ _ _ h => h) (Or.inl ⟨by rfl, ?hy31⟩) (by assumption) ?rest31
        case hy31 => ((intro w hSw; (try dsimp only at hSw); go_simp) <;> with_reducible rfl)
        case' rest31 => try simp only [List.getElem_toArray, List.getElem_cons_zero, List.getElem_cons_succ, Act.put, List.setIfInBounds_toArray, List.set_cons_zero, List.set_cons_succ]
        refine wpAnyH_take (i := 6) (oi := _) (v := ?v32) rfl (by kernel_rfl) (by kernel_rfl) (by kernel_rfl) (fun _ _ _ h => h) (Or.inl ⟨by rfl, ?hy32⟩) (by assumption) ?rest32
        case hy32 => ((intro w hSw; (try dsimp only at hSw); go_simp) <;> with_reducible rfl)
        case' rest32 => try simp only [List.getElem_toArray, List.getElem_cons_zero, List.getElem_cons_succ, Act.put, List.setIfInBounds_toArray, List.set_cons_zero, List.set_cons_succ]
        refine wpAnyH_take (i := 7) (oi := _) (v := ?v33) rfl (by kernel_rfl) (by kernel_rfl) (by kernel_rfl) (fun _ _ _ h => h) (Or.inl ⟨by rfl, ?hy33⟩) (by assumption) ?rest33
        case hy33 => ((intro w hSw; (try dsimp only at hSw); go_simp) <;> with_reducible rfl)
        case' rest33 => try simp only [List.getElem_toArray, List.getElem_cons_zero, List.getElem_cons_succ, Act.put, List.setIfInBounds_toArray, List.set_cons_zero, List.set_cons_succ]
        refine wpAnyH_take (i := 8) (oi := _) (v := ?v34) rfl (by kernel_rfl) (by kernel_rfl) (by kernel_rfl) (fun _ _ _ h => h) (Or.inl ⟨by rfl, ?hy34⟩) (by assumption) ?rest34
        case hy34 => ((intro w hSw; (try dsimp only at hSw); go_simp) <;> with_reducible rfl)
        case' rest34 => try simp only [List.getElem_toArray, List.getElem_cons_zero, List.getElem_cons_succ, Act.put, List.setIfInBounds_toArray, List.set_cons_zero, List.set_cons_succ]
        refine wpAnyH_take (i := 9) (oi := _) (v := ?v35) rfl (by kernel_rfl) (by kernel_rfl) (by kernel_rfl) (fun _ _ _ h => h) (Or.inl ⟨by rfl, ?hy35⟩) (by assumption) ?rest35
        case hy35 => ((intro w hSw; (try dsimp only at hSw); go_simp) <;> with_reducible rfl)
        case' rest35 => try simp only [List.getElem_toArray, List.getElem_cons_zero, List.getElem_cons_succ, Act.put, List.setIfInBounds_toArray, List.set_cons_zero, List.set_cons_succ]
        refine wpAnyH_take (i := 10) (oi := _) (v := ?v36) rfl (by kernel_rfl) (by kernel_rfl) (by kernel_rfl) (fun _ _ _ h => h) (Or.inl ⟨by rfl, ?hy36⟩) (by assumption) ?rest36
        case hy36 => ((intro w hSw; (try dsimp only at hSw); go_simp) <;> with_reducible rfl)
        case' rest36 => try simp only [List.getElem_toArray, List.getElem_cons_zero, List.getElem_cons_succ, Act.put, List.setIfInBounds_toArray, List.set_cons_zero, List.set_cons_succ]
        refine wpAnyH_take (i := 11) (oi := _) (v := ?v37) rfl (by kernel_rfl) (by kernel_rfl) (by kernel_rfl) (fun _ _ _ h => h) (Or.inl ⟨by rfl, ?hy37⟩) (by assumption) ?rest37
        case hy37 => ((intro w hSw; (try dsimp only at hSw); go_simp) <;> with_reducible rfl)
        case' rest37 => try simp only [List.getElem_toArray, List.getElem_cons_zero, List.getElem_cons_succ, Act.put, List.setIfInBounds_toArray, List.set_cons_zero, List.set_cons_succ]
        refine wpAnyH_take (i := 12) (oi := _) (v := ?v38) rfl (by kernel_rfl) (by kernel_rfl) (by kernel_rfl) (fun _ _ _ h => h) (Or.inl ⟨by rfl, ?hy38⟩) (by assumption) ?rest38
        case hy38 => ((intro w hSw; (try dsimp only at hSw); go_simp) <;> with_reducible rfl)
        case' rest38 => try simp only [List.getElem_toArray, List.getElem_cons_zero, List.getElem_cons_succ, Act.put, List.setIfInBounds_toArray, List.set_cons_zero, List.set_cons_succ]
        refine wpAnyH_take (i := 13) (oi := _) (v := ?v39) rfl (by kernel_rfl) (by kernel_rfl) (by kernel_rfl) (fun _ _ _ h => h) (Or.inl ⟨by rfl, ?hy39⟩) (by assumption) ?rest39
        case hy39 => ((intro w hSw; (try dsimp only at hSw); go_simp) <;> with_reducible rfl)
        case' rest39 => try simp only [List.getElem_toArray, List.getElem_cons_zero, List.getElem_cons_succ, Act.put, List.setIfInBounds_toArray, List.set_cons_zero, List.set_cons_succ]
        refine wpAnyH_take (i := 14) (oi := _) (v := ?v40) rfl (by kernel_rfl) (by kernel_rfl) (by kernel_rfl) (fun _ _ _ h => h) (Or.inl ⟨by rfl, ?hy40⟩) (by assumption) ?rest40
        case hy40 => ((intro w hSw; (try dsimp only at hSw); go_simp) <;> with_reducible rfl)
        case' rest40 => try simp only [List.getElem_toArray, List.getElem_cons_zero, List.getElem_cons_succ, Act.put, List.setIfInBounds_toArray, List.set_cons_zero, List.set_cons_succ]
        refine wpAnyH_take (i := 15) (oi := _) (v := ?v41) rfl (by kernel_rfl) (by kernel_rfl) (by kernel_rfl) (fun _ _ _ h => h) (Or.inl ⟨by rfl, ?hy41⟩) (by assumption) ?rest41
        case hy41 => ((intro w hSw; (try dsimp only at hSw); go_simp) <;> with_reducible rfl)
        case' rest41 => try simp only [List.getElem_toArray, List.getElem_cons_zero, List.getElem_cons_succ, Act.put, List.setIfInBounds_toArray, List.set_cons_zero, List.set_cons_succ]
        refine wpAnyH_take (i := 16) (oi := _) (v := ?v42) rfl (by kernel_rfl) (by kernel_rfl) (by kernel_rfl) (fun _ _ _ h => h) (Or.inl ⟨by rfl, ?hy42⟩) (by assumption) ?rest42
        case hy42 => ((intro w hSw; (try dsimp only at hSw); go_simp) <;> with_reducible rfl)
        case' rest42 => try simp only [List.getElem_toArray, List.getElem_cons_zero, List.getElem_cons_succ, Act.put, List.setIfInBounds_toArray, List.set_cons_zero, List.set_cons_succ]
        refine wpAnyH_take (i := 17) (oi := _) (v := ?v43) rfl (by kernel_rfl) (by kernel_rfl) (by kernel_rfl) (fun _ _ _ h => h) (Or.inl ⟨by rfl, ?hy43⟩) (by assumption) ?rest43
        case hy43 => ((intro w hSw; (try dsimp only at hSw); go_simp) <;> with_reducible rfl)
        case' rest43 => try simp only [List.getElem_toArray, List.getElem_cons_zero, List.getElem_cons_succ, Act.put, List.setIfInBounds_toArray, List.set_cons_zero, List.set_cons_succ]
        refine wpAnyH_take (i := 18) (oi := _) (v := ?v44) rfl (by kernel_rfl) (by kernel_rfl) (by kernel_rfl) (fun _ _ _ h => h) (Or.inl ⟨by rfl, ?hy44⟩) (by assumption) ?rest44
        case hy44 => ((intro w hSw; (try dsimp only at hSw); go_simp) <;> with_reducible rfl)
        case' rest44 => try simp only [List.getElem_toArray, List.getElem_cons_zero, List.getElem_cons_succ, Act.put, List.setIfInBounds_toArray, List.set_cons_zero, List.set_cons_succ]
        refine wpAnyH_ready (rs := [19]) (by kernel_rfl) (by simp) ?_
        refine AllReadyH.cons (o := _) rfl (fun K hK => ?_) AllReadyH.nil
        go_simp
        refine (rdic_poke v.ix v.sub Aj v.data.length cj v.data _ ((HTT.out.other HO5.out).below (Below.drew (Below.refl _ _))) H8.out rfl HCJ.out HVD.out (HSJ.out.below hb5.drew)).mono ?_
        rintro e w6 ⟨V6, es6, rfl, hV6, hD6, ho6⟩
        have hV56 : V6 = V5 := hV6.trans HV5.out.symm
        subst hV56
        dsimp only
        have HO6 := hide (only_undrew' ho6)
        have HD6 := hide hD6
        have HQ6 := hide (blk_only HQ5.out HO6.out (fun h => (HTT.out.br _ h).2.2 rfl))
        have hb6 := below_only HO6.out hb5 (fun i hi => (HTT.out.br i hi).1)
        clear ho6 hD6 hV6
        refine hK.out _ _ ?hS47 (fun hHeld => ?rest47)
        case hS47 => ((try dsimp only); (exact ⟨HQ6.out.cell 1 rfl, (hb6.cell (p := ⟨b, off + k * 3, none⟩) zb).trans c0, (hb6.cell (p := ⟨b, off + k * 3 + 1, none⟩) zb).trans c1, (hb6.cell (p := ⟨b, off + k * 3 + 2, none⟩) zb).trans c2'⟩))
        case' rest47 => (clear hK K; try simp only [List.getElem_toArray, List.getElem_cons_zero, List.getElem_cons_succ, Act.put, List.setIfInBounds_toArray, List.set_cons_zero, List.set_cons_succ])
        refine wpAnyH_done (by kernel_rfl) ?_ _
        have hEnd := hHeld.2
        repeat (clear hHeld)
        clear hEnd d0 d1 d2
        clear q5_c0 q5_c1 q5_f
        have HT6 : Hid (TwoD w.heap.size (fun g => g = w.heap.size) L (pokeAll L (L.map Ent.df) (X.take (k + 1))) pr w6 p) := hide (by
          rw [pokeAll_take HV.out, ← HV5.out]
          exact HTT.out.both HO5.out HD5.out HO6.out HD6.out (fun g hg => by rw [hg]; exact HQr.out.lt) hbr.size)
        go_wp2_with fail
        go_roundw
        case rel => exact ⟨k + 1, by omega, by go_num, HT6, HQ6, hb6⟩
        case measure => simp [intOf]; omega
      · go_wp2_with fail
        go_ret3
        have h1 := HT.out
        rw [List.take_of_length_le (by rw [← HM.out]; omega)] at h1
        exact ⟨_, _, true, rfl, fun _ => ⟨p, pr, rfl, rfl, h1.exc (fun g h _ => h.elim), HS.out, HLI.out, HLX.out, HR.out⟩, fun h => (by cases h), hbr⟩
  · have hp := h2 her
    subst hp
    clear h2 h3 h3' hnp hnp'
    go_wp2_with fail
    go_ret3
    exact F0.out _ hb13
end Go.Proofs.Ytmnldciobeeleaa
