/- The reference of dictionaries: Set, Poke, Reset. -/
import Derived.Test.YtabgdfbiocoimaaRDicB
import Derived.Test.YtabgdfbiocoimaaDicW
import Derived.Test.YtabgdfbiocoimaaDicS
namespace Go.Proofs.Ytabgdfbiocoimaa
set_option linter.unusedVariables false
set_option linter.unusedSimpArgs false
set_option linter.unnecessarySimpa false
open Go.RowKit
set_option maxRecDepth 100000
set_option maxHeartbeats 4000000
section
variable {F : Nat → Prop} {p n cl cv : Nat} {Al Av : Option Addr} {L : List Ent} {V : List (List UInt8)} {ds es : List (Option Addr × Nat)}
def RPutR (F : Nat → Prop) (p n cl : Nat) (Al Av : Option Addr) (cv : Nat) (L : List Ent) (V : List (List UInt8)) (ds : List (Option Addr × Nat)) (ix sub : Int) (b : List UInt8) (any : Bool) (w : World) (e : Ending) (w' : World) : Prop :=
  ∃ V' es', e = .returned (.int .u32 (mayC L ix sub b any)) ∧ V' = putV L V ix sub b any ∧ DB 66 w' (fun g => F g ∨ w.heap.size ≤ g) p Al n cl Av cv L V' ds es' ∧ Only F w w'
theorem rdic_set (ix sub : Int) (A : Option Addr) (m c : Nat) (b : List UInt8) (w : World) (hD : DB 66 w F p Al n cl Av cv L V ds es) (hn : n ≤ 1000)
    (hm : m = b.length) (hc : m ≤ c) (hl : m ≤ 35184372088832) (hb : Sl w A (b.map bv)) :
    Calls Try.prog 69 #[.pointer (some ⟨p, 0, none⟩), .int .i64 ix, .int .i64 sub, .slice A m c] w (RPutR F p n cl Al Av cv L V ds ix sub b false w) := by
  have HC := hide (rdic_may ix sub A m c b w hD hn hm hc hl hb)
  have HD := hide hD
  have HM := hide hm
  have HB := hide hb
  obtain ⟨cc, hce⟩ : ∃ cc, cc = mayC L ix sub b false := ⟨_, rfl⟩
  have HE := hide hce
  by_cases h0 : cc = 0
  · have h0' : mayC L ix sub b false = 0 := by rw [← hce]; exact h0
    obtain ⟨k, hk, hlk, hkl⟩ := find_nat (code_zero.1 (may_code h0'))
    have hkn : k < n := by rw [hD.ents.hn]; exact hkl
    have HP : Hid (putV L V ix sub b false = V.set k b) := hide (by unfold putV; rw [if_pos h0', hlk])
    have H0 := hide h0'
    have HK := hide hk
    have hvl := hD.lenV
    have HFB := hide hl
    have HN := hide hn
    clear hD hm hb hce hc h0 h0' hk hlk hl
    go_enter Try.func69, Try.ntmps69
    go_wp2_with fail
    refine HC.out.mono ?_
    rintro e w1 ⟨rfl, hb1⟩
    have HD1 := hide (HD.out.below hb1)
    have HB1 := hide (HB.out.below hb1)
    clear HC
    rw [H0.out]
    obtain ⟨v, hv⟩ : ∃ v, V[k]? = some v := ⟨V[k]'(by rw [hvl]; exact hkl), List.getElem?_eq_getElem _⟩
    obtain ⟨gv, dv, rfl, zv, _, _, _, cv0, cf0, hFv⟩ := HD1.out.val hv
    have hB2 := HD1.out.blk
    have zp := hB2.lt
    have hB2_c0 := hB2.cell 0 rfl
    have hB2_f0 := hB2.frozen 0
    have hB2_c1 := hB2.cell 1 rfl
    have hB2_f1 := hB2.frozen 1
    obtain ⟨i1, i2, i3⟩ := idx_at hkn
    have hne : p ≠ gv := fun h => blk_own_ne hB2 HD1.out.vals.own (by decide) (by rw [h]; rfl)
    have HFV := hide hFv
    clear hv hvl hFv hkl
    go_wp2_with fail
    refine wp_region_held_drew (S := (fun w' => w'.cell? ⟨p, 1, none⟩ = some (.slice (some ⟨gv, 0, none⟩) n cv) ∧ True)) (by kernel_rfl) ?hS1 (fun hHeld => ?rest1)
    case hS1 => ((try dsimp only); (exact ⟨hB2_c1, trivial⟩))
    case' rest1 => skip
    refine wpAnyH_take (i := 0) (oi := _) (v := ?v2) rfl (by kernel_rfl) (by kernel_rfl) (by kernel_rfl) (fun _ _ _ h => h) (Or.inl ⟨by rfl, ?hy2⟩) (by assumption) ?rest2
    case hy2 => ((intro w hSw; (try dsimp only at hSw); go_simp) <;> with_reducible rfl)
    case' rest2 => try simp only [List.getElem_toArray, List.getElem_cons_zero, List.getElem_cons_succ, Act.put, List.setIfInBounds_toArray, List.set_cons_zero, List.set_cons_succ]
    refine wpAnyH_take (i := 1) (oi := _) (v := ?v3) rfl (by kernel_rfl) (by kernel_rfl) (by kernel_rfl) (fun _ _ _ h => h) (Or.inl ⟨by rfl, ?hy3⟩) (by assumption) ?rest3
    case hy3 => ((intro w hSw; (try dsimp only at hSw); go_simp) <;> with_reducible rfl)
    case' rest3 => try simp only [List.getElem_toArray, List.getElem_cons_zero, List.getElem_cons_succ, Act.put, List.setIfInBounds_toArray, List.set_cons_zero, List.set_cons_succ]
    refine wpAnyH_take (i := 2) (oi := _) (v := ?v4) rfl (by kernel_rfl) (by kernel_rfl) (by kernel_rfl) (fun _ _ _ h => h) (Or.inl ⟨by rfl, ?hy4⟩) (by assumption) ?rest4
    case hy4 => ((intro w hSw; (try dsimp only at hSw); go_simp) <;> with_reducible rfl)
    case' rest4 => try simp only [List.getElem_toArray, List.getElem_cons_zero, List.getElem_cons_succ, Act.put, List.setIfInBounds_toArray, List.set_cons_zero, List.set_cons_succ]
    refine wpAnyH_take (i := 3) (oi := _) (v := ?v5) rfl (by kernel_rfl) (by kernel_rfl) (by kernel_rfl) (fun _ _ _ h => h) (Or.inl ⟨by rfl, ?hy5⟩) (by assumption) ?rest5
    case hy5 => ((intro w hSw; (try dsimp only at hSw); go_simp) <;> with_reducible rfl)
    case' rest5 => try simp only [List.getElem_toArray, List.getElem_cons_zero, List.getElem_cons_succ, Act.put, List.setIfInBounds_toArray, List.set_cons_zero, List.set_cons_succ]
    refine wpAnyH_take (i := 4) (oi := _) (v := ?v6) rfl (by kernel_rfl) (by kernel_rfl) (by kernel_rfl) (fun _ _ _ h => h) (Or.inl ⟨by rfl, ?hy6⟩) (by assumption) ?rest6
    case hy6 => ((intro w hSw; (try dsimp only at hSw); go_simp) <;> with_reducible rfl)
    case' rest6 => try simp only [List.getElem_toArray, List.getElem_cons_zero, List.getElem_cons_succ, Act.put, List.setIfInBounds_toArray, List.set_cons_zero, List.set_cons_succ]
    refine wpAnyH_take (i := 5) (oi := _) (v := ?v7) rfl (by kernel_rfl) (by kernel_rfl) (by kernel_rfl) (fun _ _ _ h => h) (Or.inl ⟨by rfl, ?hy7⟩) (by assumption) ?rest7
    case hy7 => ((intro w hSw; (try dsimp only at hSw); go_simp) <;> with_reducible rfl)
    case' rest7 => try simp only [List.getElem_toArray, List.getElem_cons_zero, List.getElem_cons_succ, Act.put, List.setIfInBounds_toArray, List.set_cons_zero, List.set_cons_succ]
    refine wpAnyH_take (i := 6) (oi := _) (v := ?v8) rfl (by kernel_rfl) (by kernel_rfl) (by kernel_rfl) (fun _ _ _ h => h) (Or.inl ⟨by rfl, ?hy8⟩) (by assumption) ?rest8
    case hy8 => ((intro w hSw; (try dsimp only at hSw); go_simp) <;> with_reducible rfl)
    case' rest8 => try simp only [List.getElem_toArray, List.getElem_cons_zero, List.getElem_cons_succ, Act.put, List.setIfInBounds_toArray, List.set_cons_zero, List.set_cons_succ]
    refine wpAnyH_take (i := 8) (oi := _) (v := ?v9) rfl (by kernel_rfl) (by kernel_rfl) (by kernel_rfl) (fun _ _ _ h => h) (Or.inl ⟨by rfl, ?hy9⟩) (by assumption) ?rest9
    case hy9 => ((intro w hSw; (try dsimp only at hSw); go_simp) <;> with_reducible rfl)
    case' rest9 => try simp only [List.getElem_toArray, List.getElem_cons_zero, List.getElem_cons_succ, Act.put, List.setIfInBounds_toArray, List.set_cons_zero, List.set_cons_succ]
    refine wpAnyH_ready (rs := [7]) (by kernel_rfl) (by simp) ?_
    refine AllReadyH.cons (o := _) rfl (fun K hK => ?_) AllReadyH.nil
    go_simp
    refine (rdic_find ix sub _ (HD1.out.below (Below.drew (Below.refl _ _))) HN.out).mono ?_
    rintro e w2 ⟨rfl, hw2⟩
    subst hw2
    dsimp only
    rw [HK.out]
    refine hK.out _ _ ?hS12 (fun hHeld => ?rest12)
    case hS12 => ((try dsimp only); (exact ⟨hB2_c1, trivial⟩))
    case' rest12 => (clear hK K; try simp only [List.getElem_toArray, List.getElem_cons_zero, List.getElem_cons_succ, Act.put, List.setIfInBounds_toArray, List.set_cons_zero, List.set_cons_succ])
    refine wpAnyH_ready (rs := [9]) (by kernel_rfl) (by simp) ?_
    refine AllReadyH.cons (o := _) rfl (fun K hK => ?_) AllReadyH.nil
    go_simp
    refine (join_nil A m c b _ HM.out HFB.out HB1.out.drew).mono ?_
    rintro e w2 ⟨A3, c3, rfl, hO3, hb3⟩
    dsimp only
    have zp' : p < w1.drew.heap.size := zp
    refine hK.out _ _ ?hS15 (fun hHeld => ?rest15)
    case hS15 => ((try dsimp only); (exact ⟨(Blk.below (w := w1.drew) hB2 hb3 zp').cell 1 rfl, trivial⟩))
    case' rest15 => (clear hK K; try simp only [List.getElem_toArray, List.getElem_cons_zero, List.getElem_cons_succ, Act.put, List.setIfInBounds_toArray, List.set_cons_zero, List.set_cons_succ])
    have zv3 := Nat.lt_of_lt_of_le zv hb3.size
    have hf3 : w2.frozen? ⟨gv, k, none⟩ = false := (hb3.frozen (p := ⟨gv, k, none⟩) zv).trans cf0
    have hc3 : w2.cell? ⟨gv, k, none⟩ = w1.cell? ⟨gv, k, none⟩ := hb3.cell (p := ⟨gv, k, none⟩) zv
    rw [cv0] at hc3
    refine wpAnyH_take (i := 10) (oi := _) (v := ?v16) rfl (by kernel_rfl) (by kernel_rfl) (by kernel_rfl) (fun _ _ _ h => h) (Or.inl ⟨by rfl, ?hy16⟩) (by assumption) ?rest16
    case hy16 => ((intro w hSw; (try dsimp only at hSw); go_simp) <;> with_reducible rfl)
    case' rest16 => try simp only [List.getElem_toArray, List.getElem_cons_zero, List.getElem_cons_succ, Act.put, List.setIfInBounds_toArray, List.set_cons_zero, List.set_cons_succ]
    refine wpAnyH_ready (rs := [11]) (by kernel_rfl) (by simp) ?_
    refine AllReadyH.cons (o := _) rfl (fun K hK => ?_) AllReadyH.nil
    go_simp
    refine hK.out _ _ ?hS19 (fun hHeld => ?rest19)
    case hS19 => ((try dsimp only); (exact ⟨((Blk.below (w := w1.drew) hB2 hb3 zp').far hne _).cell 1 rfl, trivial⟩))
    case' rest19 => (clear hK K; try simp only [List.getElem_toArray, List.getElem_cons_zero, List.getElem_cons_succ, Act.put, List.setIfInBounds_toArray, List.set_cons_zero, List.set_cons_succ])
    refine wpAnyH_done (by kernel_rfl) ?_ _
    have hEnd := hHeld.2
    repeat (clear hHeld)
    go_wp2_with fail
    go_ret
    have hb4 : Below w1.heap.size w1 w2 := ⟨hb3.os, hb3.tape, hb3.output, hb3.size, hb3.block⟩
    have HD3 := HD1.out.below (w' := w2) hb4
    refine ⟨_, _, by rw [H0.out]; rfl, HP.out.symm, DB.store (HD3.mono (fun g _ h => .inl h)) (by decide) hkn (hO3.mono (Nat.zero_le _)) ?_ (by have := HM.out; have := HFB.out; unfold fitB; omega), ?_⟩
    · exact hO3.own.fin.mono (fun g h => .inr (by have := hb1.size; have := h.1; simp at this; omega))
    · exact ((Only.of_below hb1).step hb4).trans (Only.of_set (F := F) HFV.out _) (fun _ _ h => h)
  · have HP : Hid (putV L V ix sub b false = V) := hide (by unfold putV; rw [if_neg (by rw [← hce]; exact h0)])
    clear hD hn hm hb hce hc
    go_enter Try.func69, Try.ntmps69
    go_wp2_with fail
    refine HC.out.mono ?_
    rintro e w1 ⟨rfl, hb1⟩
    have HD1 := hide (HD.out.below hb1)
    rw [← HE.out]
    go_wp2_with fail
    go_ret
    exact ⟨V, es, by rw [← HE.out]; rfl, HP.out.symm, HD1.out.mono (fun g _ h => .inl h), Only.of_below hb1⟩
theorem rdic_poke (ix sub : Int) (A : Option Addr) (m c : Nat) (b : List UInt8) (w : World) (hD : DB 66 w F p Al n cl Av cv L V ds es) (hn : n ≤ 1000)
    (hm : m = b.length) (hc : m ≤ c) (hl : m ≤ 35184372088832) (hb : Sl w A (b.map bv)) :
    Calls Try.prog 71 #[.pointer (some ⟨p, 0, none⟩), .int .i64 ix, .int .i64 sub, .slice A m c] w (RPutR F p n cl Al Av cv L V ds ix sub b true w) := by
  have HD := hide hD
  have HM := hide hm
  have HB := hide hb
  have HN := hide hn
  by_cases hf : 0 ≤ findL L ix sub
  · obtain ⟨k, hk, hlk, hkl⟩ := find_nat hf
    obtain ⟨E, hE⟩ : ∃ E, L[k]? = some E := ⟨L[k], List.getElem?_eq_getElem _⟩
    have hkn : k < n := by rw [hD.ents.hn]; exact hkl
    have HC : Hid (mayC L ix sub b true = valC E b) := hide (by unfold mayC; rw [if_pos (code_zero.2 hf), hlk, entK_at hE]; simp)
    have HLK := hide hlk
    have HK := hide hk
    obtain ⟨g, d, rfl, zg, _, _, _, c0, c1, c2, c3, c4, c5, c6, c7, c8, c9, c10⟩ := hD.ent hE
    have hBr := hD.blk
    have hvl := hD.lenV
    have HFB := hide hl
    clear hD hm hb hf hk hlk hE
    have hBr_c0 := hBr.cell 0 rfl
    have hBr_f0 := hBr.frozen 0
    have hBr_c1 := hBr.cell 1 rfl
    have hBr_f1 := hBr.frozen 1
    go_enter Try.func71, Try.ntmps71
    go_wp2_with fail
    refine (rdic_find ix sub _ HD.out HN.out).mono ?_
    rintro e w1 ⟨rfl, rfl⟩
    rw [HK.out]
    go_wp2_with fail
    refine (rent_value E d.1 E.df.length d.2 A m c b _ HM.out hc HFB.out HB.out).mono ?_
    rintro e w1 ⟨rfl, hb1⟩
    have HD1 := hide (HD.out.below hb1)
    have HB1 := hide (HB.out.below hb1)
    obtain ⟨cc, hce⟩ : ∃ cc, cc = valueE E.ty E.mx E.lo E.hi b := ⟨_, rfl⟩
    have HCC : Hid (mayC L ix sub b true = cc) := hide (by rw [HC.out, hce]; rfl)
    rw [← hce]
    clear c0 c1 c2 c3 c4 c5 c6 c7 c8 c9 c10 hce hc hl
    clear hBr_c0 hBr_f0 hBr_c1 hBr_f1
    by_cases h0 : cc = 0
    · subst h0
      have HP : Hid (putV L V ix sub b true = V.set k b) := hide (by unfold putV; rw [if_pos HCC.out, HLK.out])
      obtain ⟨v, hv⟩ : ∃ v, V[k]? = some v := ⟨V[k]'(by rw [hvl]; exact hkl), List.getElem?_eq_getElem _⟩
      obtain ⟨gv, dv, rfl, zv, _, _, _, cv0, cf0, hFv⟩ := HD1.out.val hv
      have hB2 := HD1.out.blk
      have zp := hB2.lt
      have hB2_c0 := hB2.cell 0 rfl
      have hB2_f0 := hB2.frozen 0
      have hB2_c1 := hB2.cell 1 rfl
      have hB2_f1 := hB2.frozen 1
      obtain ⟨i1, i2, i3⟩ := idx_at hkn
      have hne : p ≠ gv := fun h => blk_own_ne hB2 HD1.out.vals.own (by decide) (by rw [h]; rfl)
      have HFV := hide hFv
      clear hv hvl hFv hkl
      go_wp2_with fail
      refine wp_region_held_drew (S := (fun w' => w'.cell? ⟨p, 1, none⟩ = some (.slice (some ⟨gv, 0, none⟩) n cv) ∧ True)) (by kernel_rfl) ?hS21 (fun hHeld => ?rest21)
      case hS21 => ((try dsimp only); (exact ⟨hB2_c1, trivial⟩))
      case' rest21 => skip
      refine wpAnyH_take (i := 0) (oi := _) (v := ?v22) rfl (by kernel_rfl) (by kernel_rfl) (by kernel_rfl) (fun _ _ _ h => h) (Or.inl ⟨by rfl, ?hy22⟩) (by assumption) ?rest22
      case hy22 => ((intro w hSw; (try dsimp only at hSw); go_simp) <;> with_reducible rfl)
      case' rest22 => try simp only [List.getElem_toArray, List.getElem_cons_zero, List.getElem_cons_succ, Act.put, List.setIfInBounds_toArray, List.set_cons_zero, List.set_cons_succ]
      refine wpAnyH_take (i := 1) (oi := _) (v := ?v23) rfl (by kernel_rfl) (by kernel_rfl) (by kernel_rfl) (fun _ _ _ h => h) (Or.inl ⟨by rfl, ?hy23⟩) (by assumption) ?rest23
      case hy23 => ((intro w hSw; (try dsimp only at hSw); go_simp) <;> with_reducible rfl)
      case' rest23 => try simp only [List.getElem_toArray, List.getElem_cons_zero, List.getElem_cons_succ, Act.put, List.setIfInBounds_toArray, List.set_cons_zero, List.set_cons_succ]
      refine wpAnyH_take (i := 2) (oi := _) (v := ?v24) rfl (by kernel_rfl) (by kernel_rfl) (by kernel_rfl) (fun _ _ _ h => h) (Or.inl ⟨by rfl, ?hy24⟩) (by assumption) ?rest24
      case hy24 => ((intro w hSw; (try dsimp only at hSw); go_simp) <;> with_reducible rfl)
      case' rest24 => try simp only [List.getElem_toArray, List.getElem_cons_zero, List.getElem_cons_succ, Act.put, List.setIfInBounds_toArray, List.set_cons_zero, List.set_cons_succ]
      refine wpAnyH_take (i := 3) (oi := _) (v := ?v25) rfl (by kernel_rfl) (by kernel_rfl) (by kernel_rfl) (fun _ _ _ h => h) (Or.inl ⟨by rfl, ?hy25⟩) (by assumption) ?rest25
      case hy25 => ((intro w hSw; (try dsimp only at hSw); go_simp) <;> with_reducible rfl)
      case' rest25 => try simp only [List.getElem_toArray, List.getElem_cons_zero, List.getElem_cons_succ, Act.put, List.setIfInBounds_toArray, List.set_cons_zero, List.set_cons_succ]
      refine wpAnyH_take (i := 4) (oi := _) (v := ?v26) rfl (by kernel_rfl) (by kernel_rfl) (by kernel_rfl) (fun _ _ _ h => h) (Or.inl ⟨by rfl, ?hy26⟩) (by assumption) ?rest26
      case hy26 => ((intro w hSw; (try dsimp only at hSw); go_simp) <;> with_reducible rfl)
      case' rest26 => try simp only [List.getElem_toArray, List.getElem_cons_zero, List.getElem_cons_succ, Act.put, List.setIfInBounds_toArray, List.set_cons_zero, List.set_cons_succ]
      refine wpAnyH_take (i := 5) (oi := _) (v := ?v27) rfl (by kernel_rfl) (by kernel_rfl) (by kernel_rfl) (fun _ _ _ h => h) (Or.inl ⟨by rfl, ?hy27⟩) (by assumption) ?rest27
      case hy27 => ((intro w hSw; (try dsimp only at hSw); go_simp) <;> with_reducible rfl)
      case' rest27 => try simp only [List.getElem_toArray, List.getElem_cons_zero, List.getElem_cons_succ, Act.put, List.setIfInBounds_toArray, List.set_cons_zero, List.set_cons_succ]
      refine wpAnyH_ready (rs := [6]) (by kernel_rfl) (by simp) ?_
      refine AllReadyH.cons (o := _) rfl (fun K hK => ?_) AllReadyH.nil
      go_simp
      refine (join_nil A m c b _ HM.out HFB.out HB1.out.drew).mono ?_
      rintro e w2 ⟨A3, c3, rfl, hO3, hb3⟩
      dsimp only
      have zp' : p < w1.drew.heap.size := zp
      refine hK.out _ _ ?hS30 (fun hHeld => ?rest30)
      case hS30 => ((try dsimp only); (exact ⟨(Blk.below (w := w1.drew) hB2 hb3 zp').cell 1 rfl, trivial⟩))
      case' rest30 => (clear hK K; try simp only [List.getElem_toArray, List.getElem_cons_zero, List.getElem_cons_succ, Act.put, List.setIfInBounds_toArray, List.set_cons_zero, List.set_cons_succ])
      have zv3 := Nat.lt_of_lt_of_le zv hb3.size
      have hf3 : w2.frozen? ⟨gv, k, none⟩ = false := (hb3.frozen (p := ⟨gv, k, none⟩) zv).trans cf0
      have hc3 : w2.cell? ⟨gv, k, none⟩ = w1.cell? ⟨gv, k, none⟩ := hb3.cell (p := ⟨gv, k, none⟩) zv
      rw [cv0] at hc3
      refine wpAnyH_take (i := 7) (oi := _) (v := ?v31) rfl (by kernel_rfl) (by kernel_rfl) (by kernel_rfl) (fun _ _ _ h => h) (Or.inl ⟨by rfl, ?hy31⟩) (by assumption) ?rest31
      case hy31 => ((intro w hSw; (try dsimp only at hSw); go_simp) <;> with_reducible rfl)
      case' rest31 => try simp only [List.getElem_toArray, List.getElem_cons_zero, List.getElem_cons_succ, Act.put, List.setIfInBounds_toArray, List.set_cons_zero, List.set_cons_succ]
      refine wpAnyH_ready (rs := [8]) (by kernel_rfl) (by simp) ?_
      refine AllReadyH.cons (o := _) rfl (fun K hK => ?_) AllReadyH.nil
      go_simp
      refine hK.out _ _ ?hS34 (fun hHeld => ?rest34)
      case hS34 => ((try dsimp only); (exact ⟨((Blk.below (w := w1.drew) hB2 hb3 zp').far hne _).cell 1 rfl, trivial⟩))
      case' rest34 => (clear hK K; try simp only [List.getElem_toArray, List.getElem_cons_zero, List.getElem_cons_succ, Act.put, List.setIfInBounds_toArray, List.set_cons_zero, List.set_cons_succ])
      refine wpAnyH_done (by kernel_rfl) ?_ _
      have hEnd := hHeld.2
      repeat (clear hHeld)
      go_wp2_with fail
      go_ret
      have hb4 : Below w1.heap.size w1 w2 := ⟨hb3.os, hb3.tape, hb3.output, hb3.size, hb3.block⟩
      have HD3 := HD1.out.below (w' := w2) hb4
      refine ⟨_, _, by rw [HCC.out]; rfl, HP.out.symm, DB.store (HD3.mono (fun g _ h => .inl h)) (by decide) hkn (hO3.mono (Nat.zero_le _)) ?_ (by have := HM.out; have := HFB.out; unfold fitB; omega), ?_⟩
      · exact hO3.own.fin.mono (fun g h => .inr (by have := hb1.size; have := h.1; simp at this; omega))
      · exact ((Only.of_below hb1).step hb4).trans (Only.of_set (F := F) HFV.out _) (fun _ _ h => h)
    · have HP : Hid (putV L V ix sub b true = V) := hide (by unfold putV; rw [if_neg (by rw [HCC.out]; exact h0)])
      clear hvl hkl
      go_wp2_with fail
      go_ret
      exact ⟨V, es, by rw [HCC.out]; rfl, HP.out.symm, HD1.out.mono (fun g _ h => .inl h), Only.of_below hb1⟩
  · have HC : Hid (mayC L ix sub b true = codeL L ix sub) := hide (by unfold mayC; rw [if_neg (fun h => hf (code_zero.1 h))])
    have HP : Hid (putV L V ix sub b true = V) := hide (by unfold putV; rw [if_neg (fun h => hf (code_zero.1 (may_code h)))])
    have HMS := hide (code_missing hf)
    have hf' : findL L ix sub < 0 := by omega
    clear hf hD hn hm hb hc hl
    go_enter Try.func71, Try.ntmps71
    go_wp2_with fail
    refine (rdic_find ix sub _ HD.out HN.out).mono ?_
    rintro e w1 ⟨rfl, rfl⟩
    go_wp2_with fail
    refine (rdic_missing _ _).mono ?_
    rintro e w1 ⟨rfl, rfl⟩
    rw [HMS.out]
    go_wp2_with fail
    go_ret
    exact ⟨V, es, by rw [HC.out]; rfl, HP.out.symm, HD.out.mono (fun g _ h => .inl h), Only.refl _ _⟩
def RResetR (F : Nat → Prop) (p n cl : Nat) (Al Av : Option Addr) (cv : Nat) (L : List Ent) (ds : List (Option Addr × Nat)) (w : World) (e : Ending) (w' : World) : Prop :=
  ∃ es', e = .returned (.tuple #[]) ∧ DB 66 w' (fun g => F g ∨ w.heap.size ≤ g) p Al n cl Av cv L (L.map Ent.df) ds es' ∧ Only F w w'
theorem rdic_reset (w : World) (hD : DB 66 w F p Al n cl Av cv L V ds es) (hn : n ≤ 1000) :
    Calls Try.prog 74 #[.pointer (some ⟨p, 0, none⟩)] w (RResetR F p n cl Al Av cv L ds w) := by
  have HD := hide hD
  have HN := hide hD.ents.hn
  have HLV := hide hD.lenV
  clear hD
  go_enter Try.func74, Try.ntmps74
  go_wp2_with fail
  go_loopw [2] (fun i wr => ∃ k es', k ≤ n ∧ i = .int .i64 (k : Nat) ∧ Hid (DB 66 wr (fun g => F g ∨ w.heap.size ≤ g) p Al n cl Av cv L (rsV L V k) ds es') ∧ Hid (Only F w wr)) (fun i _ => n - (intOf i).toNat)
  case atStart => exact ⟨0, es, by omega, rfl, hide (by rw [rs_zero]; exact HD.out.mono (fun g _ h => .inl h)), hide (Only.refl _ _)⟩
  case round =>
    obtain ⟨k, es', hk, rfl, HDr, HOr⟩ := hrel
    have hB2 := HDr.out.blk
    have zp := hB2.lt
    have hB2_c0 := hB2.cell 0 rfl
    have hB2_f0 := hB2.frozen 0
    have hB2_c1 := hB2.cell 1 rfl
    have hB2_f1 := hB2.frozen 1
    by_cases hlt : k < n
    · obtain ⟨E, hE⟩ : ∃ E, L[k]? = some E := ⟨L[k]'(by rw [← HN.out]; exact hlt), List.getElem?_eq_getElem _⟩
      obtain ⟨v, hv⟩ : ∃ v, (rsV L V k)[k]? = some v := ⟨(rsV L V k)[k]'(by rw [rs_len HLV.out, ← HN.out]; exact hlt), List.getElem?_eq_getElem _⟩
      obtain ⟨gl, d, hAl, zg, _, hOd, hfit, _, _, _, _, _, _, _, _, _, _, c10⟩ := HDr.out.ent hE
      obtain ⟨gv, dv, hAv, zv, _, _, _, cv0, cf0, hFv⟩ := HDr.out.val hv
      subst hAv hAl
      have HS := hide hOd.sl
      have HF := hide hfit.1
      have HT := hide (rs_step hE HLV.out)
      have HFV := hide hFv
      obtain ⟨i1, i2, i3⟩ := idx_at hlt
      have hne1 : gv ≠ p := fun h => blk_own_ne hB2 HDr.out.vals.own (by decide) (by rw [h]; rfl)
      have hne2 : gv ≠ gl := by
        have := own_ne' HDr.out.ents.own HDr.out.vals.own (by decide) gl rfl
        simp [Value.ownBlock] at this
        omega
      clear hE hv hOd hfit hFv
      go_wp2_with fail
      refine wp_region_held_drew (S := (fun w' => w'.cell? ⟨p, 0, none⟩ = some (.slice (some ⟨gl, 0, none⟩) n cl) ∧ w'.cell? ⟨p, 1, none⟩ = some (.slice (some ⟨gv, 0, none⟩) n cv) ∧ w'.cell? ⟨gl, k * 11 + 10, none⟩ = some (.slice d.1 E.df.length d.2))) (by kernel_rfl) ?hS36 (fun hHeld => ?rest36)
      case hS36 => ((try dsimp only); (exact ⟨hB2_c0, hB2_c1, c10⟩))
      case' rest36 => skip
      refine wpAnyH_take (i := 0) (oi := _) (v := ?v37) rfl (by kernel_rfl) (by kernel_rfl) (by kernel_rfl) (fun _ _ _ h => h) (Or.inl ⟨by rfl, ?hy37⟩) (by assumption) ?rest37
      case hy37 => ((intro w hSw; (try dsimp only at hSw); go_simp) <;> with_reducible rfl)
      case' rest37 => try simp only [List.getElem_toArray, List.getElem_cons_zero, List.getElem_cons_succ, Act.put, List.setIfInBounds_toArray, List.set_cons_zero, List.set_cons_succ]
      refine wpAnyH_take (i := 1) (oi := _) (v := ?v38) rfl (by kernel_rfl) (by kernel_rfl) (by kernel_rfl) (fun _ _ _ h => h) (Or.inl ⟨by rfl, ?hy38⟩) (by assumption) ?rest38
      case hy38 => ((intro w hSw; (try dsimp only at hSw); go_simp) <;> with_reducible rfl)
      case' rest38 => try simp only [List.getElem_toArray, List.getElem_cons_zero, List.getElem_cons_succ, Act.put, List.setIfInBounds_toArray, List.set_cons_zero, List.set_cons_succ]
      refine wpAnyH_take (i := 2) (oi := _) (v := ?v39) rfl (by kernel_rfl) (by kernel_rfl) (by kernel_rfl) (fun _ _ _ h => h) (Or.inl ⟨by rfl, ?hy39⟩) (by assumption) ?rest39
      case hy39 => ((intro w hSw; (try dsimp only at hSw); go_simp) <;> with_reducible rfl)
      case' rest39 => try simp only [List.getElem_toArray, List.getElem_cons_zero, List.getElem_cons_succ, Act.put, List.setIfInBounds_toArray, List.set_cons_zero, List.set_cons_succ]
      refine wpAnyH_take (i := 3) (oi := _) (v := ?v40) rfl (by kernel_rfl) (by kernel_rfl) (by kernel_rfl) (fun _ _ _ h => h) (Or.inl ⟨by rfl, ?hy40⟩) (by assumption) ?rest40
      case hy40 => ((intro w hSw; (try dsimp only at hSw); go_simp) <;> with_reducible rfl)
      case' rest40 => try simp only [List.getElem_toArray, List.getElem_cons_zero, List.getElem_cons_succ, Act.put, List.setIfInBounds_toArray, List.set_cons_zero, List.set_cons_succ]
      refine wpAnyH_take (i := 4) (oi := _) (v := ?v41) rfl (by kernel_rfl) (by kernel_rfl) (by kernel_rfl) (fun _ _ _ h => h) (Or.inl ⟨by rfl, ?hy41⟩) (by assumption) ?rest41
      case hy41 => ((intro w hSw; (try dsimp only at hSw); go_simp) <;> with_reducible rfl)
      case' rest41 => try simp only [List.getElem_toArray, List.getElem_cons_zero, List.getElem_cons_succ, Act.put, List.setIfInBounds_toArray, List.set_cons_zero, List.set_cons_succ]
      refine wpAnyH_take (i := 5) (oi := _) (v := ?v42) rfl (by kernel_rfl) (by kernel_rfl) (by kernel_rfl) (fun _ _ _ h => h) (Or.inl ⟨by rfl, ?hy42⟩) (by assumption) ?rest42
      case hy42 => ((intro w hSw; (try dsimp only at hSw); go_simp) <;> with_reducible rfl)
      case' rest42 => try simp only [List.getElem_toArray, List.getElem_cons_zero, List.getElem_cons_succ, Act.put, List.setIfInBounds_toArray, List.set_cons_zero, List.set_cons_succ]
      refine wpAnyH_take (i := 6) (oi := _) (v := ?v43) rfl (by kernel_rfl) (by kernel_rfl) (by kernel_rfl) (fun _ _ _ h => h) (Or.inl ⟨by rfl, ?hy43⟩) (by assumption) ?rest43
      case hy43 => ((intro w hSw; (try dsimp only at hSw); go_simp) <;> with_reducible rfl)
      case' rest43 => try simp only [List.getElem_toArray, List.getElem_cons_zero, List.getElem_cons_succ, Act.put, List.setIfInBounds_toArray, List.set_cons_zero, List.set_cons_succ]
      refine wpAnyH_take (i := 7) (oi := _) (v := ?v44) rfl (by kernel_rfl) (by kernel_rfl) (by kernel_rfl) (fun _ _ _ h => h) (Or.inl ⟨by rfl, ?hy44⟩) (by assumption) ?rest44
      case hy44 => ((intro w hSw; (try dsimp only at hSw); go_simp) <;> with_reducible rfl)
      case' rest44 => try simp only [List.getElem_toArray, List.getElem_cons_zero, List.getElem_cons_succ, Act.put, List.setIfInBounds_toArray, List.set_cons_zero, List.set_cons_succ]
      refine wpAnyH_take (i := 8) (oi := _) (v := ?v45) rfl (by kernel_rfl) (by kernel_rfl) (by kernel_rfl) (fun _ _ _ h => h) (Or.inl ⟨by rfl, ?hy45⟩) (by assumption) ?rest45
      case hy45 => ((intro w hSw; (try dsimp only at hSw); go_simp) <;> with_reducible rfl)
      case' rest45 => try simp only [List.getElem_toArray, List.getElem_cons_zero, List.getElem_cons_succ, Act.put, List.setIfInBounds_toArray, List.set_cons_zero, List.set_cons_succ]
      refine wpAnyH_take (i := 9) (oi := _) (v := ?v46) rfl (by kernel_rfl) (by kernel_rfl) (by kernel_rfl) (fun _ _ _ h => h) (Or.inl ⟨by rfl, ?hy46⟩) (by assumption) ?rest46
      case hy46 => ((intro w hSw; (try dsimp only at hSw); go_simp) <;> with_reducible rfl)
      case' rest46 => try simp only [List.getElem_toArray, List.getElem_cons_zero, List.getElem_cons_succ, Act.put, List.setIfInBounds_toArray, List.set_cons_zero, List.set_cons_succ]
      refine wpAnyH_take (i := 10) (oi := _) (v := ?v47) rfl (by kernel_rfl) (by kernel_rfl) (by kernel_rfl) (fun _ _ _ h => h) (Or.inl ⟨by rfl, ?hy47⟩) (by assumption) ?rest47
      case hy47 => ((intro w hSw; (try dsimp only at hSw); go_simp) <;> with_reducible rfl)
      case' rest47 => try simp only [List.getElem_toArray, List.getElem_cons_zero, List.getElem_cons_succ, Act.put, List.setIfInBounds_toArray, List.set_cons_zero, List.set_cons_succ]
      refine wpAnyH_take (i := 11) (oi := _) (v := ?v48) rfl (by kernel_rfl) (by kernel_rfl) (by kernel_rfl) (fun _ _ _ h => h) (Or.inl ⟨by rfl, ?hy48⟩) (by assumption) ?rest48
      case hy48 => ((intro w hSw; (try dsimp only at hSw); go_simp) <;> with_reducible rfl)
      case' rest48 => try simp only [List.getElem_toArray, List.getElem_cons_zero, List.getElem_cons_succ, Act.put, List.setIfInBounds_toArray, List.set_cons_zero, List.set_cons_succ]
      refine wpAnyH_take (i := 12) (oi := _) (v := ?v49) rfl (by kernel_rfl) (by kernel_rfl) (by kernel_rfl) (fun _ _ _ h => h) (Or.inl ⟨by rfl, ?hy49⟩) (by assumption) ?rest49
      case hy49 => ((intro w hSw; (try dsimp only at hSw); go_simp) <;> with_reducible rfl)
      case' rest49 => try simp only [List.getElem_toArray, List.getElem_cons_zero, List.getElem_cons_succ, Act.put, List.setIfInBounds_toArray, List.set_cons_zero, List.set_cons_succ]
      refine wpAnyH_ready (rs := [13]) (by kernel_rfl) (by simp) ?_
      refine AllReadyH.cons (o := _) rfl (fun K hK => ?_) AllReadyH.nil
      go_simp
      refine (join_nil d.1 E.df.length d.2 E.df _ rfl HF.out HS.out.drew).mono ?_
      rintro e w2 ⟨A3, c3, rfl, hO3, hb3⟩
      dsimp only
      have e0 := (hb3.cell (p := ⟨p, 0, none⟩) zp).trans hB2_c0
      have e1 := (hb3.cell (p := ⟨p, 1, none⟩) zp).trans hB2_c1
      have e2 := (hb3.cell (p := ⟨gl, k * 11 + 10, none⟩) zg).trans c10
      refine hK.out _ _ ?hS52 (fun hHeld => ?rest52)
      case hS52 => ((try dsimp only); (exact ⟨e0, e1, e2⟩))
      case' rest52 => (clear hK K; try simp only [List.getElem_toArray, List.getElem_cons_zero, List.getElem_cons_succ, Act.put, List.setIfInBounds_toArray, List.set_cons_zero, List.set_cons_succ])
      have hf3 : w2.frozen? ⟨gv, k, none⟩ = false := (hb3.frozen (p := ⟨gv, k, none⟩) zv).trans cf0
      have hc3 := (hb3.cell (p := ⟨gv, k, none⟩) zv).trans cv0
      refine wpAnyH_take (i := 14) (oi := _) (v := ?v53) rfl (by kernel_rfl) (by kernel_rfl) (by kernel_rfl) (fun _ _ _ h => h) (Or.inl ⟨by rfl, ?hy53⟩) (by assumption) ?rest53
      case hy53 => ((intro w hSw; (try dsimp only at hSw); go_simp) <;> with_reducible rfl)
      case' rest53 => try simp only [List.getElem_toArray, List.getElem_cons_zero, List.getElem_cons_succ, Act.put, List.setIfInBounds_toArray, List.set_cons_zero, List.set_cons_succ]
      refine wpAnyH_ready (rs := [15]) (by kernel_rfl) (by simp) ?_
      refine AllReadyH.cons (o := _) rfl (fun K hK => ?_) AllReadyH.nil
      go_simp
      refine hK.out _ _ ?hS56 (fun hHeld => ?rest56)
      case hS56 => ((try dsimp only); (exact ⟨(World.cell?_setCell_far _ _ _ _ hne1).trans e0, (World.cell?_setCell_far _ _ _ _ hne1).trans e1, (World.cell?_setCell_far _ _ _ _ hne2).trans e2⟩))
      case' rest56 => (clear hK K; try simp only [List.getElem_toArray, List.getElem_cons_zero, List.getElem_cons_succ, Act.put, List.setIfInBounds_toArray, List.set_cons_zero, List.set_cons_succ])
      refine wpAnyH_done (by kernel_rfl) ?_ _
      have hEnd := hHeld.2
      repeat (clear hHeld)
      have hb4 : Below wr.heap.size wr w2 := ⟨hb3.os, hb3.tape, hb3.output, hb3.size, hb3.block⟩
      have hz := HOr.out.size
      have HD3 := hide (DB.store (T := 66) (HDr.out.below hb4) (by decide) hlt (hO3.mono (Nat.zero_le _)) (hO3.own.fin.mono (fun g h => .inr (Nat.le_trans hz h.1))) HF.out)
      rw [HT.out] at HD3
      have HO3 : Hid (Only F w (w2.setCell ⟨gv, k, none⟩ (.slice A3 E.df.length c3))) := hide ((HOr.out.step hb4).trans (Only.of_set (F := fun g => F g ∨ w.heap.size ≤ g) HFV.out _) (fun i hi h => by
        rcases h with h | h
        · exact h
        · omega))
      go_wp2_with fail
      go_roundw
      case rel => exact ⟨k + 1, _, by omega, by go_num, HD3, HO3⟩
      case measure => simp [intOf]; omega
    · go_wp2_with fail
      have hkn : k = n := by omega
      go_end0
      refine ⟨es', rfl, ?_, HOr.out⟩
      have := HDr.out
      rw [rs_full HLV.out (by rw [hkn, HN.out])] at this
      exact this
end
end Go.Proofs.Ytabgdfbiocoimaa
