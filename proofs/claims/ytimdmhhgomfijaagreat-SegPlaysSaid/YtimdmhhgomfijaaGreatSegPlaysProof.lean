/- Proved: for every input, law SegPlays answers true, and what was handed in reads as it did. No condition. -/
import Derived.Test.YtimdmhhgomfijaaGreatRSgK
import Derived.Test.YtimdmhhgomfijaaGreatOpenG
import Derived.Test.YtimdmhhgomfijaaGreatSegN
import Derived.Test.YtimdmhhgomfijaaGreatDicV
import Derived.Test.YtimdmhhgomfijaaGreatRLig
import Derived.Test.YtimdmhhgomfijaaGreatRDicN
import Derived.Test.YtimdmhhgomfijaaGreatOpenB
import Derived.Test.YtimdmhhgomfijaaGreatOpenL
namespace Go.Proofs.YtimdmhhgomfijaaGreat
set_option linter.unusedVariables false
set_option linter.unusedSimpArgs false
set_option linter.unnecessarySimpa false
open Go.RowKit
set_option maxRecDepth 100000
set_option maxHeartbeats 40000000
theorem new_sortedP' {L : List Ent} {a : Int} (h : NewP L 0 a) : SortedE L := by
  rcases h with ⟨_, h, _⟩ | ⟨_, h, _⟩ | ⟨_, _, _, h⟩
  · omega
  · exact absurd rfl h
  · exact sorted_of _ L rfl h
theorem new_right {L : List Ent} {a : Int} (h : NewP L 0 a) : ∀ E ∈ L, rightE E = 0 := by
  rcases h with ⟨_, h, _⟩ | ⟨_, h, _⟩ | ⟨_, _, _, h⟩
  · omega
  · exact absurd rfl h
  · intro E hE
    obtain ⟨k, hk, rfl⟩ := List.getElem_of_mem hE
    exact rightE_zero (List.getElem?_eq_getElem hk) (h k hk)
theorem pp3_of {N : Nat} {L : List Ent} {pp pd pt ps pr : Nat} {W : World} (h : PlayE N L pp pd pt ps pr W) : W.cell? ⟨pp, 3, none⟩ = some (.pointer (some ⟨pr, 0, none⟩)) := by
  obtain ⟨V, S, lix, lsub, lb, X, Gs, Gr, Al, cl, hC, _⟩ := h
  exact hC.pb.cell 3 rfl
theorem does_any21 {N : Nat} {L : List Ent} {pp pd pt ps pr : Nat} (kind : Int) (M : Ms) (A3 : Option Addr) (m3 c3 code : Nat) (w : World) (h : PlayE N L pp pd pt ps pr w) (hs : SortedE L) (hL : L.length ≤ 1000) (hm : m3 = M.data.length) (hm1 : M.data.length ≤ 100) (hMd : ∀ W, Below N w W → Sl W A3 (M.data.map bv)) (hsz : M.size ≤ 4294967295) :
    Calls Tryz.prog 12 #[.pointer (some ⟨pp, 0, none⟩), .agg (opV kind M A3 m3 c3 code)] w (DoesE N L pp pd pt ps pr w) := by
  by_cases h0 : kind = 0
  · subst h0; exact does_0 M A3 m3 c3 code w h hs hL hm hm1 hMd hsz
  by_cases h1 : kind = 1
  · subst h1; exact does_1 M A3 m3 c3 code w h hs hL
  by_cases h2 : kind = 2
  · subst h2; exact does_2 M A3 m3 c3 code w h hs hL
  by_cases h3 : kind = 3
  · subst h3; exact does_3 M A3 m3 c3 code w h hs hL
  exact does_d kind M A3 m3 c3 code w h hs hL h0 h1 h2 h3
def lightG : List OpG → Nat → Bool
  | [], _ => true
  | _ :: _, 0 => true
  | o :: os, n + 1 => decide (o.M.data.length ≤ 100) && lightG os n
theorem light_21 (A : Option Addr) (n c : Nat) (S : List OpG) (w : World) (hn : n = S.length) (hS : SlG w A S) :
    Calls Tryz.prog 6 #[.slice A n c] w fun e w' => ∃ x : Bool, e = .returned (.bool x) ∧ w = w' ∧ (x = true → ∀ k o, k < 60 → S[k]? = some o → o.M.data.length ≤ 100) := by
  have HN := hide hn
  have HS := hide hS
  clear hn hS
  go_enter Tryz.func6, Tryz.ntmps6
  go_wp2_with fail
  go_loopw [3] (fun s3 wx => ∃ k : Nat, s3 = .int .i64 (k : Nat) ∧ k ≤ n ∧ k ≤ 60 ∧ w = wx ∧ Hid (∀ j o, j < k → S[j]? = some o → o.M.data.length ≤ 100)) (fun s3 _ => n - (intOf s3).toNat)
  case atStart => exact ⟨0, rfl, by omega, by omega, rfl, hide (fun j o h => by omega)⟩
  case round =>
    obtain ⟨k, rfl, hk, hk60, rfl, HK⟩ := hrel
    by_cases hlt : k < n ∧ k < 60
    · obtain ⟨hlt, h60⟩ := hlt
      obtain ⟨o, ho⟩ : ∃ o, S[k]? = some o := ⟨S[k]'(by rw [← HN.out]; exact hlt), List.getElem?_eq_getElem _⟩
      obtain ⟨b, off, Aj, cj, rfl, ⟨c0, c1, c2, c3, c4, c5, c6, c7, c8, c9, c10, c11, c12, c13, c14, c15⟩, _, _, _⟩ := HS.out k o ho
      have z0 := lt_of_cell c0
      simp only [] at z0
      obtain ⟨lb, hlb⟩ : ∃ lb, lb = o.M.data.length := ⟨_, rfl⟩
      rw [← hlb] at c10
      have HLB := hide hlb
      have HO := hide ho
      obtain ⟨i1, i2, i3⟩ := idx_at hlt
      clear hlb ho
      by_cases hb : 100 < lb
      · have hbi : (100 : Int) < (lb : Int) := by omega
        go_wp2_with fail
        go_ret
        exact ⟨false, rfl, rfl, fun h => by cases h⟩
      · have hbi : ¬ (100 : Int) < (lb : Int) := by omega
        have HK2 : Hid (∀ j o, j < k + 1 → S[j]? = some o → o.M.data.length ≤ 100) := hide (fun j o' hj ho' => by
          by_cases hjk : j < k
          · exact HK.out j o' hjk ho'
          · have : j = k := by omega
            subst this
            rw [HO.out] at ho'
            injection ho' with ho'
            rw [← ho', ← HLB.out]
            omega)
        go_wp2_with fail
        go_roundw
        case rel => exact ⟨k + 1, by go_num, by omega, by omega, by trivial, HK2⟩
        case measure => simp [intOf]; omega
    · have HE : Hid (∀ k' o, k' < 60 → S[k']? = some o → o.M.data.length ≤ 100) := hide (fun k' o h1 h2 => HK.out k' o (by have := (List.getElem?_eq_some_iff.1 h2).1; have := HN.out; omega) h2)
      have hlt' : n ≤ k ∨ (k < n ∧ 60 ≤ k) := by omega
      rcases hlt' with h | ⟨h1, h2⟩
      all_goals
        go_wp2_with fail
        go_ret
        exact ⟨true, rfl, rfl, fun _ => HE.out⟩
theorem segPlays_walk (A : Option Addr) (n c : Nat) (L : List Ent) (A2 : Option Addr) (m c2 : Nat) (Q : List OpG) (w : World) (hn : n = L.length) (hL : SlE w A L) (hm : m = Q.length) (hQ : SlG w A2 Q) :
    Calls Tryz.prog 3 #[.slice A n c, .slice A2 m c2] w (TrueB w) := by
  have HN := hide hn
  have HL := hide hL
  have HM := hide hm
  have HQ := hide hQ
  have HLT := hide (light_21 A2 m c2 Q w hm hQ)
  cases hli : lightL L
  · have HLI := hide hli
    clear hn hL hli hm hQ
    go_enter Tryz.func3, Tryz.ntmps3
    go_wp2_with fail
    refine (rlight A n c L _ HN.out HL.out).mono ?_
    rintro e w1 ⟨rfl, rfl⟩
    rw [HLI.out]
    go_wp2_with fail
    refine (known_21 _).mono ?_
    rintro e wz ⟨rfl, hbz⟩
    go_wp2_with fail
    go_ret
    exact (⟨rfl, hbz⟩ : TrueB w _ _)
  have HLI := hide hli
  have HFT := hide (light_fit hli)
  have h200 : n ≤ 200 := by rw [hn]; exact light_len hli
  clear hn hL hli hm hQ
  go_enter Tryz.func3, Tryz.ntmps3
  go_wp2_with fail
  refine (rlight A n c L _ HN.out HL.out).mono ?_
  rintro e w1 ⟨rfl, rfl⟩
  rw [HLI.out]
  go_wp2_with fail
  refine HLT.out.mono ?_
  rintro e w1 ⟨x, rfl, rfl, hx⟩
  have HX := hide hx
  clear hx
  cases x
  · go_wp2_with fail
    refine (known_21 _).mono ?_
    rintro e wz ⟨rfl, hbz⟩
    go_wp2_with fail
    go_ret
    exact (⟨rfl, hbz⟩ : TrueB w _ _)
  have HX1 := hide (HX.out rfl)
  clear HX
  go_wp2_with fail
  refine (dict_new A n c L _ HN.out HL.out HFT.out).mono ?_
  rintro e w2 ⟨v, er, at_, rfl, hnp, h2, h3, hb2⟩
  go_wp2_with fail
  refine (rdic_new A n c L _ HN.out (HL.out.below hb2) HFT.out).mono ?_
  rintro e w3 ⟨pt, er', at', rfl, hnp', h3', hb3⟩
  obtain ⟨rfl, rfl⟩ := new_one hnp' hnp
  have hb13 := below_step hb3 hb2
  by_cases her : er' = 0
  · subst her
    obtain ⟨pd, gl, n', cl, Av, cv, ds, es, rfl, hn', hD⟩ := h3 rfl
    obtain ⟨Al2, n2, cl2, Av2, cv2, ds2, es2, hn2, hD2⟩ := h3' rfl
    have HS : Hid (SortedE L) := hide (new_sortedP' hnp)
    have HVP : Hid (ValsP L (L.map Ent.df)) := hide (vals_df (new_right hnp))
    have z2 := hb2.size
    have z3 := hb3.size
    have hT : TwoD w.heap.size (fun g => w3.heap.size ≤ g) L (L.map Ent.df) pt w3 pd := by
      have e1 : n2 = n' := hn2.trans hn'.symm
      subst e1
      refine ⟨fun g => w.heap.size ≤ g ∧ g < w2.heap.size, fun g => w2.heap.size ≤ g ∧ g < w3.heap.size, gl, n2, cl, Av, cv, ds, es, Al2, cl2, Av2, cv2, ds2, es2, ⟨hn2, (hD.mono (G := fun g => w.heap.size ≤ g ∧ g < w2.heap.size) (fun g h1 h2 => ⟨h2, h1⟩)).below hb3, hD2.mono (fun g h1 h2 => ⟨h2, h1⟩), ?_, ?_, ?_⟩⟩
      · rintro g ⟨h1, h2⟩; exact ⟨by omega, by omega, by omega⟩
      · rintro g ⟨h1, h2⟩; exact ⟨by omega, by omega, by omega⟩
      · rintro g ⟨h1, h2⟩ ⟨h3, h4⟩; omega
    have HT := hide hT
    clear h2 h3 h3' hnp hnp' hD hD2 hn' hn2 hT z2 z3
    go_wp2_with fail
    refine (seg_new pd _).mono ?_
    rintro e w4 ⟨rfl, hB4, hb4, hz4⟩
    have HB4 := hide hB4
    have hb14 := below_step hb4 hb13
    have HT4 := hide (HT.out.below hb4)
    clear hB4
    go_wp2_with fail
    refine (rsg_new pt _).mono ?_
    rintro e w5 ⟨rfl, hB5, hb5, hz5⟩
    have hb15 := below_step hb5 hb14
    have hpb := Blk.new w5 43 #[.pointer (some ⟨pd, 0, none⟩), .pointer (some ⟨pt, 0, none⟩), .pointer (some ⟨w3.heap.size, 0, none⟩), .pointer (some ⟨w4.heap.size, 0, none⟩), .int .i64 0, .int .i64 0, .slice none 0 0]
    have hP : PlayE w.heap.size L w5.heap.size pd pt w3.heap.size w4.heap.size (w5.alloc (.cells #[.pointer (some ⟨pd, 0, none⟩), .pointer (some ⟨pt, 0, none⟩), .pointer (some ⟨w3.heap.size, 0, none⟩), .pointer (some ⟨w4.heap.size, 0, none⟩), .int .i64 0, .int .i64 0, .slice none 0 0] 43)) := by
      have z3 := hb13.size
      refine ⟨L.map Ent.df, segZ, 0, 0, [], fun g => w3.heap.size ≤ g, fun _ => False, fun _ => False, none, 0, ⟨(HT4.out.below hb5).below (below_alloc (Below.refl _ _) _), hpb, ⟨none, 0, 0, (HB4.out.below hb5 HB4.out.lt).alloc _, fun h => absurd h (show ¬ ((0 : Int) = 1 ∨ (0 : Int) = 2) by decide)⟩, rv_idle (R := segZ) (hB5.alloc _) rfl rfl, Nat.le_refl _, Nat.zero_le _, Sl.nil _ _, (fun ad e => by cases e), (fun q h => h.elim), (fun q h => h.elim), (fun q h => h.elim), ⟨by omega, by omega, by omega⟩, ⟨fun h => h, fun h => h, fun h => h⟩, ⟨by omega, by omega, by omega⟩, ⟨by omega, by omega, by omega⟩⟩, wf_idle rfl, HVP.out⟩
    have HP := hide hP
    have hbp := below_alloc hb15 (.cells #[.pointer (some ⟨pd, 0, none⟩), .pointer (some ⟨pt, 0, none⟩), .pointer (some ⟨w3.heap.size, 0, none⟩), .pointer (some ⟨w4.heap.size, 0, none⟩), .int .i64 0, .int .i64 0, .slice none 0 0] 43)
    have HBP := hide hbp
    obtain ⟨ps, hps⟩ : ∃ ps, ps = w3.heap.size := ⟨_, rfl⟩
    obtain ⟨pr, hpr⟩ : ∃ pr, pr = w4.heap.size := ⟨_, rfl⟩
    obtain ⟨pp, hpp⟩ : ∃ pp, pp = w5.heap.size := ⟨_, rfl⟩
    rw [← hps, ← hpr, ← hpp] at HP
    rw [← hps, ← hpr] at HBP
    clear hP hbp hpb hB5 hb5 hz5 hb4 hz4 hb14 hb15 HB4 HT HT4 hb13 hb3 hb2
    go_upto_region 11 with fail
    simp only [← hps, ← hpr, ← hpp]
    refine wp_gen (P := fun W => PlayE w.heap.size L pp pd pt ps pr W ∧ Below w.heap.size w W) ⟨HP.out, HBP.out⟩ (fun W0 hW0 => ?_)
    clear HP HBP hps hpr hpp
    obtain ⟨hP0, hb0⟩ := hW0
    have HP0 := hide hP0
    clear hP0
    have HQ0 := hide (HQ.out.below hb0)
    go_wp2_with fail
    go_loopw [13] (fun s13 wx => ∃ k : Nat, s13 = .int .i64 (k : Nat) ∧ k ≤ m ∧ k ≤ 60 ∧ Hid (PlayE w.heap.size L pp pd pt ps pr wx) ∧ Below w.heap.size w wx) (fun s13 _ => m - (intOf s13).toNat)
    case atStart => exact ⟨0, rfl, by omega, by omega, HP0, hb0⟩
    case round =>
      obtain ⟨k, rfl, hk, hk60, HP, hbr⟩ := hrel
      by_cases hlt : k < m ∧ k < 60
      · obtain ⟨hlt, h60⟩ := hlt
        obtain ⟨o, ho⟩ : ∃ o, Q[k]? = some o := ⟨Q[k]'(by rw [← HM.out]; exact hlt), List.getElem?_eq_getElem _⟩
        have hd100 := HX1.out k o h60 ho
        have hsl : ∀ W, Below w.heap.size w W → ∃ b off Aj cj, A2 = some ⟨b, off, none⟩ ∧ SlG W A2 Q := fun W hW => by
          obtain ⟨b, off, Aj, cj, h1, _⟩ := HQ.out k o ho
          exact ⟨b, off, Aj, cj, h1, HQ.out.below hW⟩
        obtain ⟨b, off, Aj, cj, hA2, hcells, hcj, hsj, hszj⟩ := HQ.out k o ho
        subst hA2
        obtain ⟨knd, ⟨kind, ix, sub, tg, la, cr, sz, size, code, data, sq, bl, em, sum⟩, ocd⟩ := o
        simp only at hcells hcj hsj hszj hd100
        obtain ⟨lb, hlb⟩ : ∃ lb, lb = data.length := ⟨_, rfl⟩
        rw [← hlb] at hcells hcj
        have HLB := hide hlb
        have hcw : ∀ w', Below w.heap.size w w' → (w'.cell? ⟨b, off + k * 16, none⟩ = some (.int .i64 knd) ∧ w'.cell? ⟨b, off + k * 16 + 1, none⟩ = some (.int .i64 kind) ∧ w'.cell? ⟨b, off + k * 16 + 2, none⟩ = some (.int .i64 ix) ∧ w'.cell? ⟨b, off + k * 16 + 3, none⟩ = some (.int .i64 sub) ∧ w'.cell? ⟨b, off + k * 16 + 4, none⟩ = some (.bool tg) ∧ w'.cell? ⟨b, off + k * 16 + 5, none⟩ = some (.bool la) ∧ w'.cell? ⟨b, off + k * 16 + 6, none⟩ = some (.bool cr) ∧ w'.cell? ⟨b, off + k * 16 + 7, none⟩ = some (.bool sz) ∧ w'.cell? ⟨b, off + k * 16 + 8, none⟩ = some (.int .u32 (size : Nat)) ∧ w'.cell? ⟨b, off + k * 16 + 9, none⟩ = some (.int .u32 (code : Nat)) ∧ w'.cell? ⟨b, off + k * 16 + 10, none⟩ = some (.slice Aj lb cj) ∧ w'.cell? ⟨b, off + k * 16 + 11, none⟩ = some (.int .i64 sq) ∧ w'.cell? ⟨b, off + k * 16 + 12, none⟩ = some (.int .i64 bl) ∧ w'.cell? ⟨b, off + k * 16 + 13, none⟩ = some (.int .i64 em) ∧ w'.cell? ⟨b, off + k * 16 + 14, none⟩ = some (.int .u16 (sum : Nat)) ∧ w'.cell? ⟨b, off + k * 16 + 15, none⟩ = some (.int .u32 (ocd : Nat))) := fun w' hb => by
          obtain ⟨c0, c1, c2, c3, c4, c5, c6, c7, c8, c9, c10, c11, c12, c13, c14, c15⟩ := hcells
          exact ⟨(hb.cell (lt_of_cell c0)).trans c0, (hb.cell (lt_of_cell c1)).trans c1, (hb.cell (lt_of_cell c2)).trans c2, (hb.cell (lt_of_cell c3)).trans c3, (hb.cell (lt_of_cell c4)).trans c4, (hb.cell (lt_of_cell c5)).trans c5, (hb.cell (lt_of_cell c6)).trans c6, (hb.cell (lt_of_cell c7)).trans c7, (hb.cell (lt_of_cell c8)).trans c8, (hb.cell (lt_of_cell c9)).trans c9, (hb.cell (lt_of_cell c10)).trans c10, (hb.cell (lt_of_cell c11)).trans c11, (hb.cell (lt_of_cell c12)).trans c12, (hb.cell (lt_of_cell c13)).trans c13, (hb.cell (lt_of_cell c14)).trans c14, (hb.cell (lt_of_cell c15)).trans c15⟩
        have HCW := hide hcw
        have HSJ := hide (And.intro hcj (And.intro hsj (And.intro hszj hd100)))
        obtain ⟨i1, i2, i3⟩ := idx_at hlt
        have hcr := HCW.out _ hbr
        have hbz : b < w.heap.size := by
          have h1 := hcells.1
          exact lt_of_cell h1
        have hLn : L.length ≤ 1000 := by rw [← HN.out]; omega
        clear hcells hcw hsl hlb hcj hsj hszj hd100 ho
        go_wp2_with fail
        have hp3 := pp3_of HP.out
        refine wp_region_held_drew (S := (fun w' => w'.cell? ⟨pp, 3, none⟩ = some (.pointer (some ⟨pr, 0, none⟩)) ∧ w'.cell? ⟨b, off + k * 16, none⟩ = some (.int .i64 knd) ∧ w'.cell? ⟨b, off + k * 16 + 1, none⟩ = some (.int .i64 kind) ∧ w'.cell? ⟨b, off + k * 16 + 2, none⟩ = some (.int .i64 ix) ∧ w'.cell? ⟨b, off + k * 16 + 3, none⟩ = some (.int .i64 sub) ∧ w'.cell? ⟨b, off + k * 16 + 4, none⟩ = some (.bool tg) ∧ w'.cell? ⟨b, off + k * 16 + 5, none⟩ = some (.bool la) ∧ w'.cell? ⟨b, off + k * 16 + 6, none⟩ = some (.bool cr) ∧ w'.cell? ⟨b, off + k * 16 + 7, none⟩ = some (.bool sz) ∧ w'.cell? ⟨b, off + k * 16 + 8, none⟩ = some (.int .u32 (size : Nat)) ∧ w'.cell? ⟨b, off + k * 16 + 9, none⟩ = some (.int .u32 (code : Nat)) ∧ w'.cell? ⟨b, off + k * 16 + 10, none⟩ = some (.slice Aj lb cj) ∧ w'.cell? ⟨b, off + k * 16 + 11, none⟩ = some (.int .i64 sq) ∧ w'.cell? ⟨b, off + k * 16 + 12, none⟩ = some (.int .i64 bl) ∧ w'.cell? ⟨b, off + k * 16 + 13, none⟩ = some (.int .i64 em) ∧ w'.cell? ⟨b, off + k * 16 + 14, none⟩ = some (.int .u16 (sum : Nat)) ∧ w'.cell? ⟨b, off + k * 16 + 15, none⟩ = some (.int .u32 (ocd : Nat)))) (by kernel_rfl) ?hS1 (fun hHeld => ?rest1)
        case hS1 => ((try dsimp only); (exact ⟨hp3, hcr⟩))
        case' rest1 => skip
        refine wpAnyH_take (i := 0) (oi := _) (v := ?v2) rfl (by kernel_rfl) (by kernel_rfl) (by kernel_rfl) (fun _ _ _ h => h) (Or.inl ⟨by rfl, ?hy2⟩) (by assumption) ?rest2
        case hy2 => ((intro w hSw; (try dsimp only at hSw); go_simp) <;> with_reducible rfl)
        case' rest2 => try simp only [List.getElem_toArray, List.getElem_cons_zero, List.getElem_cons_succ, Act.put, List.setIfInBounds_toArray, List.set_cons_zero, List.set_cons_succ]
        refine wpAnyH_take (i := 1) (oi := _) (v := ?v3) rfl (by kernel_rfl) (by kernel_rfl) (by kernel_rfl) (fun _ _ _ h => h) (Or.inl ⟨by rfl, ?hy3⟩) (by assumption) ?rest3
        case hy3 => ((intro w hSw; (try dsimp only at hSw); go_simp) <;> with_reducible rfl)
        case' rest3 => try simp only [List.getElem_toArray, List.getElem_cons_zero, List.getElem_cons_succ, Act.put, List.setIfInBounds_toArray, List.set_cons_zero, List.set_cons_succ]
        refine wpAnyH_take (i := 2) (oi := _) (v := ?v4) rfl (by kernel_rfl) (by kernel_rfl) (by kernel_rfl) (fun _ _ _ h => h) (Or.inl ⟨by rfl, ?hy4⟩) (by assumption) ?rest4
        case hy4 => ((intro w hSw; (try dsimp only at hSw); go_simp) <;> with_reducible rfl)
        case' rest4 => try simp only [List.getElem_toArray, List.getElem_cons_zero, List.getElem_cons_succ, Act.put, List.setIfInBounds_toArray, List.set_cons_zero, List.set_cons_succ]
        refine wpAnyH_take (i := 3) (oi := _) (v := ?v5) rfl (by kernel_rfl) (by kernel_rfl) (by kernel_rfl) (fun _ _ _ h => h) (Or.inl ⟨by rfl, ?hy5⟩) (by assumption) ?rest5
        case hy5 => ((intro w hSw; (try dsimp only at hSw); go_simp) <;> with_reducible rfl)
        case' rest5 => try simp only [List.getElem_toArray, List.getElem_cons_zero, List.getElem_cons_succ, Act.put, List.setIfInBounds_toArray, List.set_cons_zero, List.set_cons_succ]
        refine wpAnyH_take (i := 4) (oi := _) (v := ?v6) rfl (by kernel_rfl) (by kernel_rfl) (by kernel_rfl) (fun _ _ _ h => h) (Or.inl ⟨by rfl, ?hy6⟩) (by assumption) ?rest6
        case hy6 => ((intro w hSw; (try dsimp only at hSw); go_simp) <;> with_reducible rfl)
        case' rest6 => try simp only [List.getElem_toArray, List.getElem_cons_zero, List.getElem_cons_succ, Act.put, List.setIfInBounds_toArray, List.set_cons_zero, List.set_cons_succ]
        refine wpAnyH_ready (rs := [5]) (by kernel_rfl) (by simp) ?_
        refine AllReadyH.cons (o := _) rfl (fun K hK => ?_) AllReadyH.nil
        go_simp
        refine (does_any21 knd (⟨kind, ix, sub, tg, la, cr, sz, size, code, data, sq, bl, em, sum⟩ : Ms) Aj lb cj ocd _ (HP.out.none (Only.of_below (Below.drew (Below.refl _ _)))) HS.out hLn HLB.out HSJ.out.2.2.2 (fun W hW => HSJ.out.2.1.below ((hbr.trans (Below.drew (Below.refl _ _))).trans hW)) HSJ.out.2.2.1).mono ?_
        rintro e w5 ⟨rfl, hP5, hb5⟩
        dsimp only
        have hbr5 : Below w.heap.size w w5 := (hbr.trans (Below.drew (Below.refl _ _))).trans hb5
        have hc5 := HCW.out _ hbr5
        have HP5 := hide hP5
        clear hcr
        have q3 := pp3_of HP5.out
        refine hK.out _ _ ?hS9 (fun hHeld => ?rest9)
        case hS9 => ((try dsimp only); (exact ⟨q3, hc5⟩))
        case' rest9 => (clear hK K; try simp only [List.getElem_toArray, List.getElem_cons_zero, List.getElem_cons_succ, Act.put, List.setIfInBounds_toArray, List.set_cons_zero, List.set_cons_succ])
        obtain ⟨V5, S5, lix5, lsub5, lb5, X5, Gs5, Gr5, Al5, cl5, hC5, hwf5, hvp5⟩ := HP5.out
        obtain ⟨A6, n6, c6, hsb⟩ := hC5.sv.blk
        obtain ⟨R5, A7, n7, c7, hal5, hrb, _⟩ := id hC5.rv
        have HSB := hide hsb
        have r1 : w5.cell? ⟨pr, 1, none⟩ = some (.int .i64 S5.st) := by rw [hal5.1]; exact hrb.cell 1 rfl
        have zq := hC5.pb.lt
        have zr := hrb.lt
        have HC5 := hide hC5
        clear hC5 hsb hrb hal5 hwf5 hvp5
        refine wpAnyH_take (i := 6) (oi := _) (v := ?v10) rfl (by kernel_rfl) (by kernel_rfl) (by kernel_rfl) (fun _ _ _ h => h) (Or.inl ⟨by rfl, ?hy10⟩) (by assumption) ?rest10
        case hy10 => ((intro w hSw; (try dsimp only at hSw); go_simp) <;> with_reducible rfl)
        case' rest10 => try simp only [List.getElem_toArray, List.getElem_cons_zero, List.getElem_cons_succ, Act.put, List.setIfInBounds_toArray, List.set_cons_zero, List.set_cons_succ]
        refine wpAnyH_take (i := 7) (oi := _) (v := ?v11) rfl (by kernel_rfl) (by kernel_rfl) (by kernel_rfl) (fun _ _ _ h => h) (Or.inl ⟨by rfl, ?hy11⟩) (by assumption) ?rest11
        case hy11 => ((intro w hSw; (try dsimp only at hSw); go_simp) <;> with_reducible rfl)
        case' rest11 => try simp only [List.getElem_toArray, List.getElem_cons_zero, List.getElem_cons_succ, Act.put, List.setIfInBounds_toArray, List.set_cons_zero, List.set_cons_succ]
        refine wpAnyH_take (i := 8) (oi := _) (v := ?v12) rfl (by kernel_rfl) (by kernel_rfl) (by kernel_rfl) (fun _ _ _ h => h) (Or.inl ⟨by rfl, ?hy12⟩) (by assumption) ?rest12
        case hy12 => ((intro w hSw; (try dsimp only at hSw); go_simp) <;> with_reducible rfl)
        case' rest12 => try simp only [List.getElem_toArray, List.getElem_cons_zero, List.getElem_cons_succ, Act.put, List.setIfInBounds_toArray, List.set_cons_zero, List.set_cons_succ]
        refine wpAnyH_take (i := 10) (oi := _) (v := ?v13) rfl (by kernel_rfl) (by kernel_rfl) (by kernel_rfl) (fun _ _ _ h => h) (Or.inl ⟨by rfl, ?hy13⟩) (by assumption) ?rest13
        case hy13 => ((intro w hSw; (try dsimp only at hSw); go_simp) <;> with_reducible rfl)
        case' rest13 => try simp only [List.getElem_toArray, List.getElem_cons_zero, List.getElem_cons_succ, Act.put, List.setIfInBounds_toArray, List.set_cons_zero, List.set_cons_succ]
        refine wpAnyH_take (i := 11) (oi := _) (v := ?v14) rfl (by kernel_rfl) (by kernel_rfl) (by kernel_rfl) (fun _ _ _ h => h) (Or.inl ⟨by rfl, ?hy14⟩) (by assumption) ?rest14
        case hy14 => ((intro w hSw; (try dsimp only at hSw); go_simp) <;> with_reducible rfl)
        case' rest14 => try simp only [List.getElem_toArray, List.getElem_cons_zero, List.getElem_cons_succ, Act.put, List.setIfInBounds_toArray, List.set_cons_zero, List.set_cons_succ]
        refine wpAnyH_take (i := 12) (oi := _) (v := ?v15) rfl (by kernel_rfl) (by kernel_rfl) (by kernel_rfl) (fun _ _ _ h => h) (Or.inl ⟨by rfl, ?hy15⟩) (by assumption) ?rest15
        case hy15 => ((intro w hSw; (try dsimp only at hSw); go_simp) <;> with_reducible rfl)
        case' rest15 => try simp only [List.getElem_toArray, List.getElem_cons_zero, List.getElem_cons_succ, Act.put, List.setIfInBounds_toArray, List.set_cons_zero, List.set_cons_succ]
        refine wpAnyH_take (i := 13) (oi := _) (v := ?v16) rfl (by kernel_rfl) (by kernel_rfl) (by kernel_rfl) (fun _ _ _ h => h) (Or.inl ⟨by rfl, ?hy16⟩) (by assumption) ?rest16
        case hy16 => ((intro w hSw; (try dsimp only at hSw); go_simp) <;> with_reducible rfl)
        case' rest16 => try simp only [List.getElem_toArray, List.getElem_cons_zero, List.getElem_cons_succ, Act.put, List.setIfInBounds_toArray, List.set_cons_zero, List.set_cons_succ]
        refine wpAnyH_take (i := 14) (oi := _) (v := ?v17) rfl (by kernel_rfl) (by kernel_rfl) (by kernel_rfl) (fun _ _ _ h => h) (Or.inl ⟨by rfl, ?hy17⟩) (by assumption) ?rest17
        case hy17 => ((intro w hSw; (try dsimp only at hSw); go_simp) <;> with_reducible rfl)
        case' rest17 => try simp only [List.getElem_toArray, List.getElem_cons_zero, List.getElem_cons_succ, Act.put, List.setIfInBounds_toArray, List.set_cons_zero, List.set_cons_succ]
        refine wpAnyH_take (i := 15) (oi := _) (v := ?v18) rfl (by kernel_rfl) (by kernel_rfl) (by kernel_rfl) (fun _ _ _ h => h) (Or.inl ⟨by rfl, ?hy18⟩) (by assumption) ?rest18
        case hy18 => ((intro w hSw; (try dsimp only at hSw); go_simp) <;> with_reducible rfl)
        case' rest18 => try simp only [List.getElem_toArray, List.getElem_cons_zero, List.getElem_cons_succ, Act.put, List.setIfInBounds_toArray, List.set_cons_zero, List.set_cons_succ]
        refine wpAnyH_ready (rs := [9, 16]) (by kernel_rfl) (by simp) (AllReadyH.cons (o := _) rfl (fun K hK => ?_) (AllReadyH.cons (o := _) rfl (fun K hK => ?_) AllReadyH.nil))
        · go_simp
          refine (seg_busy ps pd S5 A6 n6 c6 _ HSB.out).mono ?_
          rintro e w6 ⟨rfl, hw6⟩
          subst hw6
          dsimp only
          refine hK.out _ _ ?hS20 (fun hHeld => ?rest20)
          case hS20 => ((try dsimp only); (exact ⟨q3, hc5⟩))
          case' rest20 => (clear hK K; try simp only [List.getElem_toArray, List.getElem_cons_zero, List.getElem_cons_succ, Act.put, List.setIfInBounds_toArray, List.set_cons_zero, List.set_cons_succ])
          refine wpAnyH_ready (rs := [16]) (by kernel_rfl) (by simp) ?_
          refine AllReadyH.cons (o := _) rfl (fun K hK => ?_) AllReadyH.nil
          go_simp
          refine hK.out _ _ ?hS23 (fun hHeld => ?rest23)
          case hS23 => ((try dsimp only); (exact ⟨q3, hc5⟩))
          case' rest23 => (clear hK K; try simp only [List.getElem_toArray, List.getElem_cons_zero, List.getElem_cons_succ, Act.put, List.setIfInBounds_toArray, List.set_cons_zero, List.set_cons_succ])
          refine wpAnyH_take (i := 17) (oi := _) (v := ?v24) rfl (by kernel_rfl) (by kernel_rfl) (by kernel_rfl) (fun _ _ _ h => h) (Or.inl ⟨by rfl, ?hy24⟩) (by assumption) ?rest24
          case hy24 => ((intro w hSw; (try dsimp only at hSw); go_simp) <;> with_reducible rfl)
          case' rest24 => try simp only [List.getElem_toArray, List.getElem_cons_zero, List.getElem_cons_succ, Act.put, List.setIfInBounds_toArray, List.set_cons_zero, List.set_cons_succ]
          refine wpAnyH_take (i := 18) (oi := _) (v := ?v25) rfl (by kernel_rfl) (by kernel_rfl) (by kernel_rfl) (fun _ _ _ h => h) (Or.inl ⟨by rfl, ?hy25⟩) (by assumption) ?rest25
          case hy25 => ((intro w hSw; (try dsimp only at hSw); go_simp) <;> with_reducible rfl)
          case' rest25 => try simp only [List.getElem_toArray, List.getElem_cons_zero, List.getElem_cons_succ, Act.put, List.setIfInBounds_toArray, List.set_cons_zero, List.set_cons_succ]
          refine wpAnyH_take (i := 19) (oi := _) (v := ?v26) rfl (by kernel_rfl) (by kernel_rfl) (by kernel_rfl) (fun _ _ _ h => h) (Or.inl ⟨by rfl, ?hy26⟩) (by assumption) ?rest26
          case hy26 => ((intro w hSw; (try dsimp only at hSw); go_simp) <;> with_reducible rfl)
          case' rest26 => try simp only [List.getElem_toArray, List.getElem_cons_zero, List.getElem_cons_succ, Act.put, List.setIfInBounds_toArray, List.set_cons_zero, List.set_cons_succ]
          refine wpAnyH_take (i := 20) (oi := _) (v := ?v27) rfl (by kernel_rfl) (by kernel_rfl) (by kernel_rfl) (fun _ _ _ h => h) (Or.inl ⟨by rfl, ?hy27⟩) (by assumption) ?rest27
          case hy27 => ((intro w hSw; (try dsimp only at hSw); go_simp) <;> with_reducible rfl)
          case' rest27 => try simp only [List.getElem_toArray, List.getElem_cons_zero, List.getElem_cons_succ, Act.put, List.setIfInBounds_toArray, List.set_cons_zero, List.set_cons_succ]
          refine wpAnyH_take (i := 21) (oi := _) (v := ?v28) rfl (by kernel_rfl) (by kernel_rfl) (by kernel_rfl) (fun _ _ _ h => h) (Or.inl ⟨by rfl, ?hy28⟩) (by assumption) ?rest28
          case hy28 => ((intro w hSw; (try dsimp only at hSw); go_simp) <;> with_reducible rfl)
          case' rest28 => try simp only [List.getElem_toArray, List.getElem_cons_zero, List.getElem_cons_succ, Act.put, List.setIfInBounds_toArray, List.set_cons_zero, List.set_cons_succ]
          refine wpAnyH_take (i := 23) (oi := _) (v := ?v29) rfl (by kernel_rfl) (by kernel_rfl) (by kernel_rfl) (fun _ _ _ h => h) (Or.inl ⟨by rfl, ?hy29⟩) (by assumption) ?rest29
          case hy29 => ((intro w hSw; (try dsimp only at hSw); go_simp) <;> with_reducible rfl)
          case' rest29 => try simp only [List.getElem_toArray, List.getElem_cons_zero, List.getElem_cons_succ, Act.put, List.setIfInBounds_toArray, List.set_cons_zero, List.set_cons_succ]
          obtain ⟨Fd, Fr, gl, n8, cl8, Av, cv, ds, es, Al2, cl2, Av2, cv2, ds2, es2, T⟩ := HC5.out.two
          have hn8 : n8 ≤ 1000 := by rw [T.hn]; exact hLn
          have HTT := hide T
          clear T r1
          refine wpAnyH_ready (rs := [22]) (by kernel_rfl) (by simp) ?_
          refine AllReadyH.cons (o := _) rfl (fun K hK => ?_) AllReadyH.nil
          go_simp
          refine (dict_values _ HTT.out.d hn8).mono ?_
          rintro e w8 ⟨A8, n9, c8, ds8, rfl, hO8, hap8, hb8⟩
          dsimp only
          have hn9 : n9 = n8 := by rw [hO8.hn, svL_len _ _ HTT.out.d.lenV, HTT.out.hn]
          subst hn9
          have HO8 := hide hO8
          have HB8 := hide hb8
          have hc8 := HCW.out _ (hbr5.trans (hb8.mono hbr5.size))
          have q8 := pp3_of (HP5.out.none (Only.of_below hb8))
          clear hO8 hap8 hb8 hc5
          refine hK.out _ _ ?hS32 (fun hHeld => ?rest32)
          case hS32 => ((try dsimp only); (exact ⟨q8, hc8⟩))
          case' rest32 => (clear hK K; try simp only [List.getElem_toArray, List.getElem_cons_zero, List.getElem_cons_succ, Act.put, List.setIfInBounds_toArray, List.set_cons_zero, List.set_cons_succ])
          refine wpAnyH_ready (rs := [24]) (by kernel_rfl) (by simp) ?_
          refine AllReadyH.cons (o := _) rfl (fun K hK => ?_) AllReadyH.nil
          go_simp
          refine (rdic_values _ (HTT.out.r.below HB8.out) hn8).mono ?_
          rintro e w9 ⟨A9, n10, c9, ds9, rfl, hO9, _, hb9⟩
          dsimp only
          have hn10 : n10 = n9 := by rw [hO9.hn, svL_len _ _ HTT.out.d.lenV, HTT.out.hn]
          subst hn10
          have HO9 := hide hO9
          have HB9 := hide (below_step hb9 HB8.out)
          have HB89 := hide hb9
          have hc9' := HCW.out _ (hbr5.trans (HB9.out.mono hbr5.size))
          have q9 := pp3_of (HP5.out.none (Only.of_below HB9.out))
          clear hO9 hb9 hc8 q8
          refine hK.out _ _ ?hS35 (fun hHeld => ?rest35)
          case hS35 => ((try dsimp only); (exact ⟨q9, hc9'⟩))
          case' rest35 => (clear hK K; try simp only [List.getElem_toArray, List.getElem_cons_zero, List.getElem_cons_succ, Act.put, List.setIfInBounds_toArray, List.set_cons_zero, List.set_cons_succ])
          refine wpAnyH_ready (rs := [25]) (by kernel_rfl) (by simp) ?_
          refine AllReadyH.cons (o := _) rfl (fun K hK => ?_) AllReadyH.nil
          go_simp
          refine (vals_same A8 A9 n10 n10 c8 c9 (svL L V5) _ (by rw [svL_len _ _ HTT.out.d.lenV, HTT.out.hn]) (by rw [svL_len _ _ HTT.out.d.lenV, HTT.out.hn]) HO8.out.own.le HO9.out.own.le (by omega) (HO8.out.below HB89.out).slV HO9.out.slV).mono ?_
          rintro e w10 ⟨rfl, hb10⟩
          dsimp only
          have hbX := below_step hb10 HB9.out
          have hbr10 : Below w.heap.size w w10 := hbr5.trans (hbX.mono hbr5.size)
          have hc10 := HCW.out _ hbr10
          have HPn : Hid (PlayE w.heap.size L pp pd pt ps pr w10) := hide (HP5.out.none (Only.of_below hbX))
          have q10 := pp3_of HPn.out
          clear hb10 hc9' hbX q9
          refine hK.out _ _ ?hS38 (fun hHeld => ?rest38)
          case hS38 => ((try dsimp only); (exact ⟨q10, hc10⟩))
          case' rest38 => (clear hK K; try simp only [List.getElem_toArray, List.getElem_cons_zero, List.getElem_cons_succ, Act.put, List.setIfInBounds_toArray, List.set_cons_zero, List.set_cons_succ])
          refine wpAnyH_take (i := 26) (oi := _) (v := ?v39) rfl (by kernel_rfl) (by kernel_rfl) (by kernel_rfl) (fun _ _ _ h => h) (Or.inl ⟨by rfl, ?hy39⟩) (by assumption) ?rest39
          case hy39 => ((intro w hSw; (try dsimp only at hSw); go_simp) <;> with_reducible rfl)
          case' rest39 => try simp only [List.getElem_toArray, List.getElem_cons_zero, List.getElem_cons_succ, Act.put, List.setIfInBounds_toArray, List.set_cons_zero, List.set_cons_succ]
          refine wpAnyH_take (i := 27) (oi := _) (v := ?v40) rfl (by kernel_rfl) (by kernel_rfl) (by kernel_rfl) (fun _ _ _ h => h) (Or.inl ⟨by rfl, ?hy40⟩) (by assumption) ?rest40
          case hy40 => ((intro w hSw; (try dsimp only at hSw); go_simp) <;> with_reducible rfl)
          case' rest40 => try simp only [List.getElem_toArray, List.getElem_cons_zero, List.getElem_cons_succ, Act.put, List.setIfInBounds_toArray, List.set_cons_zero, List.set_cons_succ]
          refine wpAnyH_done (by kernel_rfl) ?_ _
          have hEnd := hHeld.2
          repeat (clear hHeld)
          clear hc10 q10
          go_wp2_with fail
          go_roundw
          case rel => exact ⟨k + 1, by go_num, by omega, by omega, HPn, hbr10⟩
          case measure => simp [intOf]; omega
        · go_simp
          refine hK.out _ _ ?hS42 (fun hHeld => ?rest42)
          case hS42 => ((try dsimp only); (exact ⟨q3, hc5⟩))
          case' rest42 => (clear hK K; try simp only [List.getElem_toArray, List.getElem_cons_zero, List.getElem_cons_succ, Act.put, List.setIfInBounds_toArray, List.set_cons_zero, List.set_cons_succ])
          refine wpAnyH_take (i := 17) (oi := _) (v := ?v43) rfl (by kernel_rfl) (by kernel_rfl) (by kernel_rfl) (fun _ _ _ h => h) (Or.inl ⟨by rfl, ?hy43⟩) (by assumption) ?rest43
          case hy43 => ((intro w hSw; (try dsimp only at hSw); go_simp) <;> with_reducible rfl)
          case' rest43 => try simp only [List.getElem_toArray, List.getElem_cons_zero, List.getElem_cons_succ, Act.put, List.setIfInBounds_toArray, List.set_cons_zero, List.set_cons_succ]
          refine wpAnyH_ready (rs := [9]) (by kernel_rfl) (by simp) ?_
          refine AllReadyH.cons (o := _) rfl (fun K hK => ?_) AllReadyH.nil
          go_simp
          refine (seg_busy ps pd S5 A6 n6 c6 _ HSB.out).mono ?_
          rintro e w6 ⟨rfl, hw6⟩
          subst hw6
          dsimp only
          refine hK.out _ _ ?hS46 (fun hHeld => ?rest46)
          case hS46 => ((try dsimp only); (exact ⟨q3, hc5⟩))
          case' rest46 => (clear hK K; try simp only [List.getElem_toArray, List.getElem_cons_zero, List.getElem_cons_succ, Act.put, List.setIfInBounds_toArray, List.set_cons_zero, List.set_cons_succ])
          refine wpAnyH_take (i := 18) (oi := _) (v := ?v47) rfl (by kernel_rfl) (by kernel_rfl) (by kernel_rfl) (fun _ _ _ h => h) (Or.inl ⟨by rfl, ?hy47⟩) (by assumption) ?rest47
          case hy47 => ((intro w hSw; (try dsimp only at hSw); go_simp) <;> with_reducible rfl)
          case' rest47 => try simp only [List.getElem_toArray, List.getElem_cons_zero, List.getElem_cons_succ, Act.put, List.setIfInBounds_toArray, List.set_cons_zero, List.set_cons_succ]
          refine wpAnyH_take (i := 19) (oi := _) (v := ?v48) rfl (by kernel_rfl) (by kernel_rfl) (by kernel_rfl) (fun _ _ _ h => h) (Or.inl ⟨by rfl, ?hy48⟩) (by assumption) ?rest48
          case hy48 => ((intro w hSw; (try dsimp only at hSw); go_simp) <;> with_reducible rfl)
          case' rest48 => try simp only [List.getElem_toArray, List.getElem_cons_zero, List.getElem_cons_succ, Act.put, List.setIfInBounds_toArray, List.set_cons_zero, List.set_cons_succ]
          refine wpAnyH_take (i := 20) (oi := _) (v := ?v49) rfl (by kernel_rfl) (by kernel_rfl) (by kernel_rfl) (fun _ _ _ h => h) (Or.inl ⟨by rfl, ?hy49⟩) (by assumption) ?rest49
          case hy49 => ((intro w hSw; (try dsimp only at hSw); go_simp) <;> with_reducible rfl)
          case' rest49 => try simp only [List.getElem_toArray, List.getElem_cons_zero, List.getElem_cons_succ, Act.put, List.setIfInBounds_toArray, List.set_cons_zero, List.set_cons_succ]
          refine wpAnyH_take (i := 21) (oi := _) (v := ?v50) rfl (by kernel_rfl) (by kernel_rfl) (by kernel_rfl) (fun _ _ _ h => h) (Or.inl ⟨by rfl, ?hy50⟩) (by assumption) ?rest50
          case hy50 => ((intro w hSw; (try dsimp only at hSw); go_simp) <;> with_reducible rfl)
          case' rest50 => try simp only [List.getElem_toArray, List.getElem_cons_zero, List.getElem_cons_succ, Act.put, List.setIfInBounds_toArray, List.set_cons_zero, List.set_cons_succ]
          refine wpAnyH_take (i := 23) (oi := _) (v := ?v51) rfl (by kernel_rfl) (by kernel_rfl) (by kernel_rfl) (fun _ _ _ h => h) (Or.inl ⟨by rfl, ?hy51⟩) (by assumption) ?rest51
          case hy51 => ((intro w hSw; (try dsimp only at hSw); go_simp) <;> with_reducible rfl)
          case' rest51 => try simp only [List.getElem_toArray, List.getElem_cons_zero, List.getElem_cons_succ, Act.put, List.setIfInBounds_toArray, List.set_cons_zero, List.set_cons_succ]
          obtain ⟨Fd, Fr, gl, n8, cl8, Av, cv, ds, es, Al2, cl2, Av2, cv2, ds2, es2, T⟩ := HC5.out.two
          have hn8 : n8 ≤ 1000 := by rw [T.hn]; exact hLn
          have HTT := hide T
          clear T r1
          refine wpAnyH_ready (rs := [22]) (by kernel_rfl) (by simp) ?_
          refine AllReadyH.cons (o := _) rfl (fun K hK => ?_) AllReadyH.nil
          go_simp
          refine (dict_values _ HTT.out.d hn8).mono ?_
          rintro e w8 ⟨A8, n9, c8, ds8, rfl, hO8, hap8, hb8⟩
          dsimp only
          have hn9 : n9 = n8 := by rw [hO8.hn, svL_len _ _ HTT.out.d.lenV, HTT.out.hn]
          subst hn9
          have HO8 := hide hO8
          have HB8 := hide hb8
          have hc8 := HCW.out _ (hbr5.trans (hb8.mono hbr5.size))
          have q8 := pp3_of (HP5.out.none (Only.of_below hb8))
          clear hO8 hap8 hb8 hc5
          refine hK.out _ _ ?hS54 (fun hHeld => ?rest54)
          case hS54 => ((try dsimp only); (exact ⟨q8, hc8⟩))
          case' rest54 => (clear hK K; try simp only [List.getElem_toArray, List.getElem_cons_zero, List.getElem_cons_succ, Act.put, List.setIfInBounds_toArray, List.set_cons_zero, List.set_cons_succ])
          refine wpAnyH_ready (rs := [24]) (by kernel_rfl) (by simp) ?_
          refine AllReadyH.cons (o := _) rfl (fun K hK => ?_) AllReadyH.nil
          go_simp
          refine (rdic_values _ (HTT.out.r.below HB8.out) hn8).mono ?_
          rintro e w9 ⟨A9, n10, c9, ds9, rfl, hO9, _, hb9⟩
          dsimp only
          have hn10 : n10 = n9 := by rw [hO9.hn, svL_len _ _ HTT.out.d.lenV, HTT.out.hn]
          subst hn10
          have HO9 := hide hO9
          have HB9 := hide (below_step hb9 HB8.out)
          have HB89 := hide hb9
          have hc9' := HCW.out _ (hbr5.trans (HB9.out.mono hbr5.size))
          have q9 := pp3_of (HP5.out.none (Only.of_below HB9.out))
          clear hO9 hb9 hc8 q8
          refine hK.out _ _ ?hS57 (fun hHeld => ?rest57)
          case hS57 => ((try dsimp only); (exact ⟨q9, hc9'⟩))
          case' rest57 => (clear hK K; try simp only [List.getElem_toArray, List.getElem_cons_zero, List.getElem_cons_succ, Act.put, List.setIfInBounds_toArray, List.set_cons_zero, List.set_cons_succ])
          refine wpAnyH_ready (rs := [25]) (by kernel_rfl) (by simp) ?_
          refine AllReadyH.cons (o := _) rfl (fun K hK => ?_) AllReadyH.nil
          go_simp
          refine (vals_same A8 A9 n10 n10 c8 c9 (svL L V5) _ (by rw [svL_len _ _ HTT.out.d.lenV, HTT.out.hn]) (by rw [svL_len _ _ HTT.out.d.lenV, HTT.out.hn]) HO8.out.own.le HO9.out.own.le (by omega) (HO8.out.below HB89.out).slV HO9.out.slV).mono ?_
          rintro e w10 ⟨rfl, hb10⟩
          dsimp only
          have hbX := below_step hb10 HB9.out
          have hbr10 : Below w.heap.size w w10 := hbr5.trans (hbX.mono hbr5.size)
          have hc10 := HCW.out _ hbr10
          have HPn : Hid (PlayE w.heap.size L pp pd pt ps pr w10) := hide (HP5.out.none (Only.of_below hbX))
          have q10 := pp3_of HPn.out
          clear hb10 hc9' hbX q9
          refine hK.out _ _ ?hS60 (fun hHeld => ?rest60)
          case hS60 => ((try dsimp only); (exact ⟨q10, hc10⟩))
          case' rest60 => (clear hK K; try simp only [List.getElem_toArray, List.getElem_cons_zero, List.getElem_cons_succ, Act.put, List.setIfInBounds_toArray, List.set_cons_zero, List.set_cons_succ])
          refine wpAnyH_take (i := 26) (oi := _) (v := ?v61) rfl (by kernel_rfl) (by kernel_rfl) (by kernel_rfl) (fun _ _ _ h => h) (Or.inl ⟨by rfl, ?hy61⟩) (by assumption) ?rest61
          case hy61 => ((intro w hSw; (try dsimp only at hSw); go_simp) <;> with_reducible rfl)
          case' rest61 => try simp only [List.getElem_toArray, List.getElem_cons_zero, List.getElem_cons_succ, Act.put, List.setIfInBounds_toArray, List.set_cons_zero, List.set_cons_succ]
          refine wpAnyH_take (i := 27) (oi := _) (v := ?v62) rfl (by kernel_rfl) (by kernel_rfl) (by kernel_rfl) (fun _ _ _ h => h) (Or.inl ⟨by rfl, ?hy62⟩) (by assumption) ?rest62
          case hy62 => ((intro w hSw; (try dsimp only at hSw); go_simp) <;> with_reducible rfl)
          case' rest62 => try simp only [List.getElem_toArray, List.getElem_cons_zero, List.getElem_cons_succ, Act.put, List.setIfInBounds_toArray, List.set_cons_zero, List.set_cons_succ]
          refine wpAnyH_done (by kernel_rfl) ?_ _
          have hEnd := hHeld.2
          repeat (clear hHeld)
          clear hc10 q10
          go_wp2_with fail
          go_roundw
          case rel => exact ⟨k + 1, by go_num, by omega, by omega, HPn, hbr10⟩
          case measure => simp [intOf]; omega
      · have hlt' : m ≤ k ∨ (k < m ∧ 60 ≤ k) := by omega
        rcases hlt' with h | ⟨h1, h2⟩
        all_goals
          go_wp2_with fail
          refine (known_21 _).mono ?_
          rintro e wz ⟨rfl, hbz⟩
          go_wp2_with fail
          go_ret
          exact (⟨rfl, below_step hbz hbr⟩ : TrueB w _ _)
  · have hp := h2 her
    subst hp
    have hez : (er' == 0) = false := by simpa using her
    clear h2 h3 h3' hnp hnp'
    go_wp2_with fail
    refine (known_21 _).mono ?_
    rintro e wz ⟨rfl, hbz⟩
    go_wp2_with fail
    go_ret
    exact (⟨rfl, below_step hbz hb13⟩ : TrueB w _ _)
end Go.Proofs.YtimdmhhgomfijaaGreat
namespace Go.Proofs.YtimdmhhgomfijaaGreat.lawSegPlays
open Go.ChangeShapes Go.WideShapes Go.ChangeAt Go.RowKit Go.Joins
set_option linter.unusedVariables false

theorem own : ownKnob Tryz.prog.godebug = none := by kernel_rfl
theorem laidOut : laidOutB Tryz.prog = true := by kernel_rfl

set_option maxRecDepth 100000 in
theorem lifted (os : Os) (started : os.Started) (H : Type) (enc : TypeId × Value → H) :
    ReturnsInHanded {} Tryz.checked os 3 .any (Rows.segPlaysSpec.pre6 enc Tryz.prog Tryz.f3 Rows.segPlaysRow.domain false) (Rows.segPlaysSpec.post enc Tryz.prog Tryz.f3 false true false false) := by
  refine returnsInHanded_of_change (C := Tryz.checked) own started (by kernel_rfl) Tryz.func3
    (ChangeSpec.witness6 (enc := enc) (C := Tryz.checked) false ⟨#[], #[.slice none 0 0, .slice none 0 0], []⟩ 8 (by kernel_rfl) (by kernel_rfl) (by kernel_rfl) (by kernel_rfl)) ?_
  intro W base args ds gs before hval0 hW hcnd _
  have hval : ∀ (j : Nat) t v, Tryz.f3.params[j]? = some t → args[j]? = some v → Value.okWide Tryz.prog W .any base t v := hval0
  have hW' := hW
  obtain ⟨p, q, hA0, hV, rfl, hfz, hnd⟩ := hW
  have hA : DataW.TrodAll enc Tryz.prog W 0 (fun _ => true) true Tryz.f3.params.toList args.toList ds p := hA0
  rw [Tryz.params3] at hA hval
  obtain ⟨v0, vs0, d0, ds0, p0, q0, hargs, rfl, rfl, h0, r0⟩ := trodAll_cons hA
  obtain ⟨v1, vs1, d1, ds1, p1, q1, rfl, rfl, rfl, h1, r1⟩ := trodAll_cons r0
  obtain ⟨rfl, rfl, rfl⟩ := trodAll_nil r1
  obtain rfl : args = #[v0, v1] := by cases args; simp_all
  obtain ⟨rfl, rfl⟩ := trodVars_none hV
  have k0 := h0
  have lt0 : ∀ x ∈ p0, x.block < W.heap.size := by obtain ⟨m, hm⟩ := k0; exact DataW.trod_lt m _ _ _ hm
  have k1 := h1
  have lt1 : ∀ x ∈ p1, x.block < W.heap.size := by obtain ⟨m, hm⟩ := k1; exact DataW.trod_lt m _ _ _ hm
  obtain ⟨a0, len0, cap0, rfl⟩ := okWide_slice Tryz.underlying22 (hval 0 22 v0 rfl rfl)
  obtain ⟨fu0, hm0⟩ := h0
  obtain ⟨A0, nn0, c0, L0, hv0, hn0, hc0, hD0⟩ := open_ents hm0
  injection hv0 with e01 e02 e03
  subst e01 e02 e03
  obtain ⟨a1, len1, cap1, rfl⟩ := okWide_slice Tryz.underlying23 (hval 1 23 v1 rfl rfl)
  obtain ⟨fu1, hm1⟩ := h1
  obtain ⟨A1, nn1, c1, L1, hv1, hn1, hc1, hD1⟩ := open_opg hm1
  injection hv1 with e11 e12 e13
  subst e11 e12 e13
  clear hA0 hval0
  refine (segPlays_walk a0 len0 cap0 L0 a1 len1 cap1 L1 W hn0 hD0 hn1 hD1).mono fun e W' hTB => ?_
  obtain ⟨he, bel⟩ := hTB
  subst he
  exact ⟨_, rfl, _, _, _, [], _, [], hW', trodAll_mk1 (shut_bool Tryz.underlying4 _), (trodAll_cons_mk (Below.trod laidOut (by kernel_rfl) (of_decide_eq_true (by kernel_rfl)) k0 bel lt0) (trodAll_cons_mk (Below.trod laidOut (by kernel_rfl) (of_decide_eq_true (by kernel_rfl)) k1 bel lt1) trodAll_mk0)), rfl, bel.frame _, fun h => by cases h⟩

theorem over : Rows.segPlaysRow.holds Tryz.pinned (OpenSpec.ofChange Rows.segPlaysSpec) :=
  OpenClaim.holds_of_wide 3 Tryz.f3 rfl rfl rfl rfl rfl rfl rfl ⟨rfl, rfl, rfl, rfl, rfl⟩ rfl rfl rfl rfl rfl (by kernel_rfl) Tryz.func3 (by kernel_rfl)
    (of_decide_eq_true (by kernel_rfl)) (by unfold Func.isWrapper; first | (rw [if_pos (by decide +kernel)]; kernel_rfl) | (rw [if_neg (by decide +kernel)]; exact ⟨rfl, rfl⟩))
    (fun os started H enc _ => lifted os started H enc)

theorem proved : Rows.SegPlaysSaid := over
#print axioms proved
end Go.Proofs.YtimdmhhgomfijaaGreat.lawSegPlays
