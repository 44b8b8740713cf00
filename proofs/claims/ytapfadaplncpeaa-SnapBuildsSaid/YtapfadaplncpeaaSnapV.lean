/- The walk of SnapBuilds. -/
import Derived.Test.YtapfadaplncpeaaSnapW
namespace Go.Proofs.Ytapfadaplncpeaa
open Go.RowKit
set_option maxRecDepth 20000
set_option maxHeartbeats 1000000

theorem OwnB.full {w : World} {B n c : Nat} {A : Option Addr} {l : List UInt8} (h : OwnB w B A n c l) : Own w B 5 1 A n c (l.map bv) := h.own

theorem snapBuilds_walk (A A2 : Option Addr) (n c n2 c2 : Nat) (L : List SV) (l : List UInt8) (w : World) (hn : n = L.length) (hc : n ≤ c) (hn2 : n2 = l.length) (hc2 : n2 ≤ c2)
    (hL : SlV w A L) (hs : Sl w A2 (l.map bv)) :
    Calls Try.prog 3 #[.slice A n c, .slice A2 n2 c2] w (TrueB w) := by
  have HN := hide hn
  have HN2 := hide hn2
  have HLT := hide (light_any A n c L w hn hc hL)
  clear hn hn2
  by_cases hlt : lightB L = true
  case neg =>
    have hlt : lightB L = false := by simpa using hlt
    go_enter Try.func3, Try.ntmps3
    go_wp2_with fail
    refine HLT.out.mono ?_
    rintro e w' ⟨rfl, rfl⟩
    go_wp2_with fail
    refine (known_18 _).mono ?_
    rintro e w1 ⟨rfl, hb1⟩
    go_wp2_with fail
    go_ret
    exact (⟨rfl, hb1⟩ : TrueB w _ _)
  case pos =>
    obtain ⟨hn200, hd⟩ := of_decide_eq_true (show decide (L.length ≤ 200 ∧ ∀ v ∈ L, v.data.length ≤ 2000) = true from hlt)
    have hn200 : n ≤ 200 := by have := HN.out; omega
    by_cases hbig : 5000 < n2
    · go_enter Try.func3, Try.ntmps3
      go_wp2_with fail
      refine HLT.out.mono ?_
      rintro e w' ⟨rfl, rfl⟩
      go_wp2_with fail
      refine (known_18 _).mono ?_
      rintro e w1 ⟨rfl, hb1⟩
      go_wp2_with fail
      go_ret
      exact (⟨rfl, hb1⟩ : TrueB w _ _)
    · have hfit : fitsV L := fun v hv => by have := hd v hv; omega
      clear hd
      go_enter Try.func3, Try.ntmps3
      go_wp2_with fail
      refine HLT.out.mono ?_
      rintro e w' ⟨rfl, rfl⟩
      go_wp2_with fail
      refine (snap_build A n c L w HN.out hc (by omega) hL hfit).mono ?_
      rintro e w1 ⟨A1, n1, c1, b1, er, rfl, hO1, hB1, hb1⟩
      go_wp2_with fail
      refine (rsnap_build A n c L w1 HN.out hc (by omega) (hL.below hb1) hfit).mono ?_
      rintro e w2 ⟨A3, n3, c3, b3, er3, rfl, hO3, hB3, hb2⟩
      obtain ⟨rfl, rfl⟩ := BuildR_det hB3 hB1
      have hn1' : n1 ≤ 960 := by rw [hO1.hn]; exact build_len hB1
      clear hB3 hB1
      have hbw2 := below_step hb2 hb1
      go_wp2_with fail
      refine (lent_any A2 n2 c2 l w2 HN2.out (by omega) (hs.below hbw2)).mono ?_
      rintro e w3 ⟨g, c4, rfl, hO4, hb3⟩
      have hbw3 := below_step hb3 hbw2
      have hc4 : n2 + 1 ≤ c4 := hO4.own.le
      have hs4 : Sl w3 (some ⟨g, 0, none⟩) (l.map bv) := by
        have := hO4.sl.take n2
        rw [List.map_append, HN2.out, List.take_left' (by simp)] at this
        exact this
      go_wp2_with fail
      refine (snap_parse (some ⟨g, 0, none⟩) n2 c4 l w3 HN2.out (by omega) hs4).mono ?_
      rintro e w4 ⟨A5, n5, c5, L5, ds5, er5, rfl, hO5, hP5, hb4⟩
      have hbw4 := below_step hb4 hbw3
      go_wp2_with fail
      refine (rsnap_parse A2 n2 c2 l w4 HN2.out hc2 (hs.below hbw4)).mono ?_
      rintro e w5 ⟨A6, n6, c6, L6, ds6, er6, rfl, hO6, hP6, hb5⟩
      rw [hP5] at hP6
      obtain ⟨rfl, rfl⟩ := Prod.mk.inj hP6
      obtain ⟨hL5, hf5⟩ := parse_sizes hP5
      have hn5 : n5 ≤ 960 := by rw [hO5.hn]; exact hL5
      have HF5 := hide hf5
      clear hP6 hP5 hL5 hf5
      have hbw5 := below_step hb5 hbw4
      have hb35 := below_step hb5 hb4
      have k1 := str_b c1 hO1.hn (((hO1.sl.below hb2).below hb3).below hb35)
      have k2 := str_b c3 hO3.hn ((hO3.sl.below hb3).below hb35)
      go_wp2_with fail
      refine (same_yes A5 A6 n5 n6 c5 c6 L5 w5 hO5.hn hO6.hn hO5.own.le hO6.own.le (by omega) (hO5.below hb5).slV hO6.slV).mono ?_
      rintro e w6 ⟨rfl, hb6⟩
      have hbw6 := below_step hb6 hbw5
      have hb36 := below_step hb6 hb35
      go_wp2_with fail
      refine (spoil_any A1 n1 c1 w.heap.size b3 w6 (by omega) (((hO1.below hb2).below hb3).below hb36).own hbw6.size).mono ?_
      rintro e w7 ⟨rfl, hg7⟩
      go_wp2_with fail
      have hA1 : ∀ g', Value.ownBlock (.slice A1 n1 c1) = some g' → g' < w1.heap.size := by
        intro g' hg'
        rcases hO1.own.shape with ⟨h1, _⟩ | ⟨g1, h1, _, h3⟩
        · rw [h1] at hg'; simp [Value.ownBlock] at hg'
        · rw [h1] at hg'; simp [Value.ownBlock] at hg'; omega
      have hz12 := hb2.size
      have hz23 := hb3.size
      have hb36s := hb36.size
      have hz6 : w3.heap.size ≤ w7.heap.size := Nat.le_trans hb36s hg7.size
      have hkeep : ∀ {B e s n c : Nat} {A : Option Addr} {xs : List Value}, w1.heap.size ≤ B → Own w6 B e s A n c xs → Own w7 B e s A n c xs := by
        intro B e s n c A xs hB hO
        refine hO.grown hg7 ?_
        intro g' hg' he
        have h1 := hA1 g' he.symm
        rcases hO.shape with ⟨h2, _⟩ | ⟨g2, h2, h3, _⟩
        · rw [h2] at hg'; cases hg'
        · rw [h2] at hg'
          injection hg' with hg'
          injection hg' with hg'
          omega
      have hp7 : Own w7 w3.heap.size 35 3 A5 n5 c5 (cellsV L5 ds5) := hkeep (by omega) ((hO5.below hb5).below hb6).own
      have hd7 : ∀ (j : Nat) (v : SV) (d : Option Addr × Nat), L5[j]? = some v → ds5[j]? = some d → OwnB w7 w3.heap.size d.1 v.data.length d.2 v.data :=
        fun j v d h1 h2 => ⟨rfl, hkeep (by omega) (((hO5.below hb5).below hb6).data j v d h1 h2).own⟩
      have ho7 : Own w7 w2.heap.size 5 1 (some ⟨g, 0, none⟩) (n2 + 1) c4 ((l ++ [77]).map bv) := hkeep (by omega) (hO4.below hb36).own
      have hbw7 : Below w.heap.size w w7 := hbw6.grown hg7 hbw6.size (by
        intro g' hg'
        rcases hO1.own.shape with ⟨h1, _⟩ | ⟨g1, h1, h2, h3⟩
        · rw [h1] at hg'; simp [Value.ownBlock] at hg'
        · rw [h1] at hg'; simp [Value.ownBlock] at hg'; omega)
      have HO5 := hide hO5
      have HP7 := hide hp7
      have HD7 := hide hd7
      clear k1 k2 hkeep hO1 hO3 hO6 hp7 hd7 hA1
      go_loopw [15] (fun i wr => ∃ k, k ≤ n5 ∧ i = .int .i64 (k : Nat) ∧ Own wr w3.heap.size 35 3 A5 n5 c5 (cellsV L5 ds5) ∧ Hid (∀ (j : Nat) (v : SV) (d : Option Addr × Nat), k ≤ j → L5[j]? = some v → ds5[j]? = some d → OwnB wr w3.heap.size d.1 v.data.length d.2 v.data) ∧ Below w3.heap.size w7 wr) (fun i _ => n5 - (intOf i).toNat)
      case atStart => exact ⟨0, by omega, rfl, HP7.out, hide (fun j v d _ h1 h2 => HD7.out j v d h1 h2), Below.refl _ _⟩
      case round =>
        obtain ⟨k, hk, rfl, hpr, hdr, hbr⟩ := hrel
        by_cases hlt5 : k < n5
        · obtain ⟨v, hv⟩ : ∃ v, L5[k]? = some v := ⟨L5[k]'(by have := HO5.out.hn; omega), List.getElem?_eq_getElem _⟩
          obtain ⟨d, hd, _⟩ := HO5.out.dat hv
          obtain ⟨_, _, e3⟩ := cellsV_at L5 ds5 k v d hv hd
          obtain ⟨bp, offp, rfl, hcell⟩ := hpr.sl.at_ e3
          have hcell' : wr.cell? ⟨bp, offp + k * 3 + 2, none⟩ = some (.slice d.1 v.data.length d.2) := by rw [Nat.add_assoc]; exact hcell
          have hdl := HF5.out v (List.mem_of_getElem? hv)
          have hOk := hdr.out k v d (Nat.le_refl _) hv hd
          have HV := hide hv
          have HDK := hide hd
          have hzr := hbr.size
          clear hv hd e3 hcell
          go_wp2_with fail
          refine (spoil_any d.1 v.data.length d.2 w3.heap.size v.data wr (by omega) hOk.own (by omega)).mono ?_
          rintro e w8 ⟨rfl, hg8⟩
          go_wp2_with fail
          go_roundw
          case rel =>
            refine ⟨k + 1, by omega, by go_num, hpr.grown hg8 (own_ne hpr hOk.own (by decide)), hide ?_, hbr.grown hg8 (Nat.le_trans hz6 hzr) ?_⟩
            · intro j v' d' hj hv' hd'
              have hOj := hdr.out j v' d' (by omega) hv' hd'
              refine ⟨rfl, hOj.own.grown hg8 ?_⟩
              intro g' hg' he
              have hpw := List.pairwise_iff_getElem.1 HO5.out.pw k j (by have := (List.getElem?_eq_some_iff.1 HDK.out).1; exact this) (by have := (List.getElem?_eq_some_iff.1 hd').1; exact this) (by omega)
              rw [(List.getElem?_eq_some_iff.1 HDK.out).2, (List.getElem?_eq_some_iff.1 hd').2] at hpw
              rcases hOk.own.shape with ⟨h1, _⟩ | ⟨g1, h1, _⟩
              · rw [h1] at he; simp [Value.ownBlock] at he
              · rw [h1] at he
                simp [Value.ownBlock] at he
                subst he
                exact hpw _ h1 hg'
            · intro g' hg'
              rcases hOk.own.shape with ⟨h1, _⟩ | ⟨g1, h1, h2, _⟩
              · rw [h1] at hg'; simp [Value.ownBlock] at hg'
              · rw [h1] at hg'; simp [Value.ownBlock] at hg'; omega
          case measure => simp [intOf]; omega
        · have hor : Own wr w2.heap.size 5 1 (some ⟨g, 0, none⟩) (n2 + 1) c4 ((l ++ [77]).map bv) := ho7.keep (fun g' h1 h2 h3 => hbr.block g' (by injection h3 with h3; injection h3 with h3; obtain ⟨g9, h4, _, h5⟩ := hO4.own.at_ (by omega); injection h4 with h4; injection h4 with h4; omega))
          have hbwr : Below w.heap.size w wr := hbw7.trans (hbr.mono hbw3.size)
          go_wp2_with fail
          refine (kept_yes g A2 n2 c4 c2 l wr HN2.out (by omega) hc4 hor.sl (hs.below hbwr)).mono ?_
          rintro e w9 ⟨rfl, rfl⟩
          go_wp2_with fail
          refine (known_18 _).mono ?_
          rintro e w9 ⟨rfl, hb9⟩
          go_wp2_with fail
          go_ret
          exact (⟨rfl, below_step hb9 hbwr⟩ : TrueB w _ _)
end Go.Proofs.Ytapfadaplncpeaa
