/- Proved: for every input, law DictPlays answers true, and what was handed in reads as it did. No condition. -/
import Derived.Test.YtabgdfbiocoimaaDicDo
import Derived.Test.YtabgdfbiocoimaaKn15
import Derived.Test.YtabgdfbiocoimaaRLig
import Derived.Test.YtabgdfbiocoimaaDicV
import Derived.Test.YtabgdfbiocoimaaSlO
import Derived.Test.YtabgdfbiocoimaaRAll
import Derived.Test.YtabgdfbiocoimaaRSm
import Derived.Test.YtabgdfbiocoimaaRDicN
import Derived.Test.YtabgdfbiocoimaaRDicV
import Derived.Test.YtabgdfbiocoimaaOpenB
import Derived.Test.YtabgdfbiocoimaaOpenL
namespace Go.Proofs.Ytabgdfbiocoimaa
set_option linter.unusedVariables false
set_option linter.unusedSimpArgs false
set_option linter.unnecessarySimpa false
open Go.RowKit
set_option maxRecDepth 100000
set_option maxHeartbeats 4000000
theorem new_sortedP {L : List Ent} {a : Int} (h : NewP L 0 a) : SortedE L := by
  rcases h with ⟨_, h, _⟩ | ⟨_, h, _⟩ | ⟨_, _, _, h⟩
  · omega
  · exact absurd rfl h
  · exact sorted_of _ L rfl h
/-- what a round of spoiling leaves of a row of entries: those from k on are as they were -/
def SpoilI (A : Option Addr) (n c : Nat) (L : List Ent) (ds : List (Option Addr × Nat)) (N M : Nat) (w0 : World) (k : Nat) (w : World) : Prop :=
  Own w 0 39 11 A n c (cellsG entF L ds) ∧ (n = L.length ∧ ds.length = L.length ∧ Apart ds ∧ ∀ d ∈ ds, FIn (fun g => N ≤ g ∧ g < M) d.1) ∧ (∀ j E d, k ≤ j → L[j]? = some E → ds[j]? = some d → OwnB w 0 d.1 E.df.length d.2 E.df) ∧ Only (fun g => N ≤ g ∧ g < M) w0 w
section
variable {A : Option Addr} {n c : Nat} {L : List Ent} {ds : List (Option Addr × Nat)} {N M k : Nat} {w0 w w' : World}
theorem SpoilI.at_ (h : SpoilI A n c L ds N M w0 k w) {E : Ent} (hE : L[k]? = some E) : ∃ g d, A = some ⟨g, 0, none⟩ ∧ g < w.heap.size ∧ ds[k]? = some d ∧ w.cell? ⟨g, k * 11 + 10, none⟩ = some (.slice d.1 E.df.length d.2) ∧ OwnB w 0 d.1 E.df.length d.2 E.df ∧ True := by
  obtain ⟨h1, ⟨hn, hl, _, _⟩, h3, _⟩ := h
  have hk := (List.getElem?_eq_some_iff.1 hE).1
  have hd : ds[k]? = some (ds[k]'(by rw [hl]; exact hk)) := List.getElem?_eq_getElem _
  obtain ⟨b, off, hA, hc⟩ := h1.sl.at_ (cellsG_at entF_len L ds k 10 E _ _ hE hd rfl)
  obtain ⟨g, hg, _, hlt⟩ := h1.at_ (by omega)
  rw [hg] at hA
  injection hA with hA
  injection hA with hA1 hA2
  subst hA1
  subst hA2
  rw [Nat.zero_add] at hc
  exact ⟨_, _, hg, hlt, hd, hc, h3 k E _ (Nat.le_refl _) hE hd, trivial⟩
theorem SpoilI.step (h : SpoilI A n c L ds N M w0 k w) {E : Ent} {d : Option Addr × Nat} (hE : L[k]? = some E) (hd : ds[k]? = some d) (hg : w.grownBy w' (Value.ownBlock (.slice d.1 E.df.length d.2))) : SpoilI A n c L ds N M w0 (k + 1) w' := by
  obtain ⟨h1, ⟨hn, hl, hap, hin⟩, h3, h4⟩ := h
  have hO := h3 k E d (Nat.le_refl _) hE hd
  refine ⟨h1.grown hg (own_ne' h1 hO.own (by decide)), ⟨hn, hl, hap, hin⟩, ?_, ?_⟩
  · intro j D e hj hD he
    have hO2 := h3 j D e (by omega) hD he
    refine ⟨hO2.hn, hO2.own.grown hg (fun g hg2 hb => ?_)⟩
    obtain ⟨hk1, e1⟩ := List.getElem?_eq_some_iff.1 hd
    obtain ⟨hj1, e2⟩ := List.getElem?_eq_some_iff.1 he
    have := List.pairwise_iff_getElem.1 hap k j hk1 hj1 (by omega)
    rw [e1, e2] at this
    rcases hO.own.shape with ⟨hx, _⟩ | ⟨g', hx, _, _⟩
    · rw [hx] at hb; simp [Value.ownBlock] at hb
    · rw [hx] at hb
      simp [Value.ownBlock] at hb
      subst hb
      exact this _ hx hg2
  · refine h4.trans (Only.of_grown (F := fun g => N ≤ g ∧ g < M) hg (fun g hgg => ?_)) (fun _ _ h => h)
    rcases hO.own.shape with ⟨hx, _⟩ | ⟨g', hx, _, _⟩
    · rw [hx] at hgg; cases hgg
    · rw [hx] at hgg
      simp [Value.ownBlock] at hgg
      subst hgg
      exact hin d (List.mem_of_getElem? hd) _ hx
theorem SpoilI.start (h : OwnE w (fun g => N ≤ g) A n c L ds) (hM : w.heap.size = M) (hap : Apart ds) (hb : Below w.heap.size w w0) : SpoilI A n c L ds N M w0 0 w0 := by
  refine ⟨h.own.below hb, ⟨h.hn, h.hd, hap, ?_⟩, fun j E d _ hE hd => (h.data j E d hE hd).1.below hb, Only.refl _ _⟩
  intro d hd g hg
  obtain ⟨j, hj, rfl⟩ := List.getElem_of_mem hd
  have hjl : j < L.length := by rw [← h.hd]; exact hj
  have hx := h.data j _ _ (List.getElem?_eq_getElem hjl) (List.getElem?_eq_getElem hj)
  exact ⟨hx.2 g hg, by rw [← hM]; exact (hx.1.own.fin g hg).2⟩
theorem SpoilI.low {v : World} (h : SpoilI A n c L ds v.heap.size M w0 k w) (hb : Below v.heap.size v w0) : Below v.heap.size v w := below_only h.2.2.2 hb (fun i hi => hi.1)
end
/-- what a round of spoiling leaves of values: those from k on are as they were -/
def SpoilV (A : Option Addr) (n c : Nat) (L : List SV) (ds : List (Option Addr × Nat)) (N : Nat) (w0 : World) (k : Nat) (w : World) : Prop :=
  Own w 0 37 3 A n c (cellsG svF L ds) ∧ (n = L.length ∧ ds.length = L.length ∧ Apart ds ∧ ∀ d ∈ ds, FIn (fun g => N ≤ g) d.1) ∧ (∀ j v d, k ≤ j → L[j]? = some v → ds[j]? = some d → OwnB w 0 d.1 v.data.length d.2 v.data) ∧ Only (fun g => N ≤ g) w0 w
section
variable {A : Option Addr} {n c : Nat} {L : List SV} {ds : List (Option Addr × Nat)} {N k : Nat} {w0 w w' : World}
theorem SpoilV.at_ (h : SpoilV A n c L ds N w0 k w) {v : SV} (hE : L[k]? = some v) : ∃ g d, A = some ⟨g, 0, none⟩ ∧ g < w.heap.size ∧ ds[k]? = some d ∧ w.cell? ⟨g, k * 3 + 2, none⟩ = some (.slice d.1 v.data.length d.2) ∧ OwnB w 0 d.1 v.data.length d.2 v.data ∧ True := by
  obtain ⟨h1, ⟨hn, hl, _, _⟩, h3, _⟩ := h
  have hk := (List.getElem?_eq_some_iff.1 hE).1
  have hd : ds[k]? = some (ds[k]'(by rw [hl]; exact hk)) := List.getElem?_eq_getElem _
  obtain ⟨b, off, hA, hc⟩ := h1.sl.at_ (cellsG_at svF_len L ds k 2 v _ _ hE hd rfl)
  obtain ⟨g, hg, _, hlt⟩ := h1.at_ (by omega)
  rw [hg] at hA
  injection hA with hA
  injection hA with hA1 hA2
  subst hA1
  subst hA2
  rw [Nat.zero_add] at hc
  exact ⟨_, _, hg, hlt, hd, hc, h3 k v _ (Nat.le_refl _) hE hd, trivial⟩
theorem SpoilV.step (h : SpoilV A n c L ds N w0 k w) {v : SV} {d : Option Addr × Nat} (hE : L[k]? = some v) (hd : ds[k]? = some d) (hg : w.grownBy w' (Value.ownBlock (.slice d.1 v.data.length d.2))) : SpoilV A n c L ds N w0 (k + 1) w' := by
  obtain ⟨h1, ⟨hn, hl, hap, hin⟩, h3, h4⟩ := h
  have hO := h3 k v d (Nat.le_refl _) hE hd
  refine ⟨h1.grown hg (own_ne' h1 hO.own (by decide)), ⟨hn, hl, hap, hin⟩, ?_, ?_⟩
  · intro j D e hj hD he
    have hO2 := h3 j D e (by omega) hD he
    refine ⟨hO2.hn, hO2.own.grown hg (fun g hg2 hb => ?_)⟩
    obtain ⟨hk1, e1⟩ := List.getElem?_eq_some_iff.1 hd
    obtain ⟨hj1, e2⟩ := List.getElem?_eq_some_iff.1 he
    have := List.pairwise_iff_getElem.1 hap k j hk1 hj1 (by omega)
    rw [e1, e2] at this
    rcases hO.own.shape with ⟨hx, _⟩ | ⟨g', hx, _, _⟩
    · rw [hx] at hb; simp [Value.ownBlock] at hb
    · rw [hx] at hb
      simp [Value.ownBlock] at hb
      subst hb
      exact this _ hx hg2
  · refine h4.trans (Only.of_grown (F := fun g => N ≤ g) hg (fun g hgg => ?_)) (fun _ _ h => h)
    rcases hO.own.shape with ⟨hx, _⟩ | ⟨g', hx, _, _⟩
    · rw [hx] at hgg; cases hgg
    · rw [hx] at hgg
      simp [Value.ownBlock] at hgg
      subst hgg
      exact hin d (List.mem_of_getElem? hd) _ hx
theorem SpoilV.start (h : OwnSV w (fun g => N ≤ g) A n c L ds) (hap : Apart ds) (hb : Below w.heap.size w w0) : SpoilV A n c L ds N w0 0 w0 := by
  refine ⟨h.own.below hb, ⟨h.hn, h.hd, hap, ?_⟩, fun j E d _ hE hd => (h.data j E d hE hd).1.below hb, Only.refl _ _⟩
  intro d hd g hg
  obtain ⟨j, hj, rfl⟩ := List.getElem_of_mem hd
  have hjl : j < L.length := by rw [← h.hd]; exact hj
  exact (h.data j _ _ (List.getElem?_eq_getElem hjl) (List.getElem?_eq_getElem hj)).2 g hg
end
/-- what a round of the script keeps -/
def PlayI (w : World) (L : List Ent) (pr : Nat) (wr : World) (p : Nat) : Prop := ∃ V, TwoD w.heap.size (fun _ => False) L V pr wr p
theorem dictPlays_walk (A : Option Addr) (n c : Nat) (L : List Ent) (A2 : Option Addr) (m c2 : Nat) (S : List Opr) (w : World) (hn : n = L.length) (hL : SlE w A L) (hm : m = S.length) (hS : SlO w A2 S) :
    Calls Try.prog 6 #[.slice A n c, .slice A2 m c2] w (TrueB w) := by
  have HN := hide hn
  have HL := hide hL
  have HM := hide hm
  have HSS := hide hS
  cases hli : lightL L
  · have HLI := hide hli
    clear hn hL hli hm hS
    go_enter Try.func6, Try.ntmps6
    go_wp2_with fail
    refine (rlight A n c L _ HN.out HL.out).mono ?_
    rintro e w1 ⟨rfl, rfl⟩
    rw [HLI.out]
    go_wp2_with fail
    refine (known_15 _).mono ?_
    rintro e w1 ⟨rfl, hb1⟩
    go_wp2_with fail
    go_ret
    exact (⟨rfl, hb1⟩ : TrueB w _ _)
  have HLI := hide hli
  have HFT := hide (light_fit hli)
  have h200 : n ≤ 200 := by rw [hn]; exact light_len hli
  clear hn hL hli hm hS
  go_enter Try.func6, Try.ntmps6
  go_wp2_with fail
  refine (rlight A n c L _ HN.out HL.out).mono ?_
  rintro e w1 ⟨rfl, rfl⟩
  rw [HLI.out]
  go_wp2_with fail
  refine (ents_lent A n c L _ HN.out (by omega) HL.out HFT.out).mono ?_
  rintro e w1 ⟨A1, n1, c1, ds1, rfl, hO1, hap1, hb1⟩
  have hn1 : n1 = n := by rw [hO1.hn, HN.out]
  subst hn1
  have HO1 := hide hO1
  have HAP := hide hap1
  clear hO1 hap1
  go_wp2_with fail
  refine (dict_new A1 n1 c1 L _ HN.out HO1.out.slE HFT.out).mono ?_
  rintro e w2 ⟨v, er, at_, rfl, hnp, h2, h3, hb2⟩
  have hb12 := below_step hb2 hb1
  go_wp2_with fail
  refine (rdic_new A n1 c L _ HN.out (HL.out.below hb12) HFT.out).mono ?_
  rintro e w3 ⟨pr, er', at', rfl, hnp', h3', hb3⟩
  obtain ⟨rfl, rfl⟩ := new_one hnp' hnp
  have hb13 := below_step hb3 hb12
  have HAll := hide (all_yes' A1 A n1 c1 n1 c L w3 HN.out HN.out (by omega) (HO1.out.slE.below (below_step hb3 hb2)) (HL.out.below hb13))
  by_cases her : er' = 0
  · subst her
    obtain ⟨p, gl, n', cl, Av, cv, ds, es, rfl, hn', hD⟩ := h3 rfl
    obtain ⟨Al2, n2, cl2, Av2, cv2, ds2, es2, hn2, hD2⟩ := h3' rfl
    have HS : Hid (SortedE L) := hide (new_sortedP hnp)
    have z1 := hb1.size
    have z2 := hb2.size
    have z3 := hb3.size
    have hT : TwoD w.heap.size (fun g => w.heap.size ≤ g ∧ g < w1.heap.size) L (L.map Ent.df) pr w3 p := by
      have e1 : n2 = n' := hn2.trans hn'.symm
      subst e1
      refine ⟨fun g => w1.heap.size ≤ g ∧ g < w2.heap.size, fun g => w2.heap.size ≤ g ∧ g < w3.heap.size, gl, n2, cl, Av, cv, ds, es, Al2, cl2, Av2, cv2, ds2, es2, ⟨hn2, (hD.mono (G := fun g => w1.heap.size ≤ g ∧ g < w2.heap.size) (fun g h1 h2 => ⟨h2, h1⟩)).below hb3, hD2.mono (fun g h1 h2 => ⟨h2, h1⟩), ?_, ?_, ?_⟩⟩
      · rintro g ⟨h1, h2⟩; exact ⟨by omega, by omega, by omega⟩
      · rintro g ⟨h1, h2⟩; exact ⟨by omega, by omega, by omega⟩
      · rintro g ⟨h1, h2⟩ ⟨h3, h4⟩; omega
    have HT := hide hT
    clear h2 h3 h3' hnp hnp' hD hD2 hn' hn2 hT z1 z2 z3
    go_wp2_with fail
    refine HAll.out.mono ?_
    rintro e w4 ⟨rfl, hb4'⟩
    have hb4 := below_step hb4' hb13
    have HT4 := hide (HT.out.below hb4')
    have HSP : Hid (SpoilI A1 n1 c1 L ds1 w.heap.size w1.heap.size w4 0 w4) := hide (SpoilI.start HO1.out rfl HAP.out (below_step hb4' (below_step hb3 hb2)))
    clear hb4'
    go_wp2_with fail
    go_loopw [12] (fun i wr => ∃ k, k ≤ n1 ∧ i = .int .i64 (k : Nat) ∧ Hid (SpoilI A1 n1 c1 L ds1 w.heap.size w1.heap.size w4 k wr)) (fun i _ => n1 - (intOf i).toNat)
    case atStart => exact ⟨0, by omega, rfl, HSP⟩
    case round =>
      obtain ⟨k, hk, rfl, HI⟩ := hrel
      by_cases hlt : k < n1
      · obtain ⟨E, hE⟩ : ∃ E, L[k]? = some E := ⟨L[k]'(by rw [← HN.out]; exact hlt), List.getElem?_eq_getElem _⟩
        obtain ⟨g, d, hA, z, hd, hcell, hOd, hgr⟩ := HI.out.at_ hE
        subst hA
        have HD := hide hOd
        have hfe := (HFT.out E (List.mem_of_getElem? hE)).1
        have HSTEP := hide (fun w' (h : wr.grownBy w' (Value.ownBlock (.slice d.1 E.df.length d.2))) => HI.out.step hE hd h)
        obtain ⟨i1, i2, i3⟩ := idx_at hlt
        clear hE hOd hd hgr
        go_wp2_with fail
        refine (spoil_any d.1 E.df.length d.2 0 E.df _ hfe HD.out.own (Nat.zero_le _)).mono ?_
        rintro e w6 ⟨rfl, hg6⟩
        have HI6 := hide (HSTEP.out w6 hg6)
        go_wp2_with fail
        go_roundw
        case rel => first | exact ⟨k + 1, by omega, by go_num, HI6⟩ | ((repeat apply Exists.intro); refine ⟨⟨k + 1, by omega, ?_, HI6⟩, rfl⟩; go_num)
        case measure => simp [intOf]; omega
      · have HO5 := hide HI.out.2.2.2
        have hb5 := HI.out.low hb4
        clear HI
        have HP5 : Hid (PlayI w L pr wr p) := hide ⟨_, (HT4.out.far HO5.out).exc (fun g h _ => h.elim)⟩
        clear HT4 HT HSP HO5 HAll hb4 hb13 hb3 hb12 hb2 hb1
        go_wp2_with fail
        go_loopw [6, 13] (fun s6 i wx => ∃ k p, k ≤ m ∧ s6 = .pointer (some ⟨p, 0, none⟩) ∧ i = .int .i64 (k : Nat) ∧ Hid (PlayI w L pr wx p) ∧ Below w.heap.size w wx) (fun _ i _ => m - (intOf i).toNat)
        case atStart => exact ⟨0, p, by omega, rfl, rfl, HP5, hb5⟩
        case round =>
          clear HP5 hb5
          obtain ⟨k, p, hk, rfl, rfl, HP, hbr⟩ := hrel
          by_cases hlt : k < m ∧ k < 40
          · obtain ⟨hlt, h40⟩ := hlt
            obtain ⟨o, hO⟩ : ∃ o, S[k]? = some o := ⟨S[k]'(by rw [← HM.out]; exact hlt), List.getElem?_eq_getElem _⟩
            obtain ⟨kind, ix, sub, b⟩ := o
            obtain ⟨bb, off, Aj, cj, rfl, ⟨c0, c1', c2', c3⟩, hcj, hsj⟩ := HSS.out.two hbr hO
            simp only at c0 c1' c2' c3 hcj hsj
            obtain ⟨lb, hlb⟩ : ∃ lb, lb = b.length := ⟨_, rfl⟩
            rw [← hlb] at c3 hcj
            have HLB := hide hlb
            have q := blk_one wr 25 #[.int .i64 kind, .int .i64 ix, .int .i64 sub, .slice Aj lb cj]
            have hb0 := below_alloc (Below.refl wr.heap.size wr) (.cells #[.int .i64 kind, .int .i64 ix, .int .i64 sub, .slice Aj lb cj] 25)
            have HSJ := hide hsj
            have hbr0 := below_step hb0 hbr
            obtain ⟨V, hT⟩ := HP.out
            have HT1 := hide ((hT.exc (Y := fun x => x = wr.heap.size) (fun x h1 h2 => by omega)).below hb0)
            clear hO hsj hT hlb
            by_cases hbig : 1000 < lb
            · have HPn : Hid (PlayI w L pr (wr.alloc (.cells #[.int .i64 kind, .int .i64 ix, .int .i64 sub, .slice Aj lb cj] 25)) p) := hide ⟨V, HT1.out.exc (fun x h _ => h.elim)⟩
              go_wp2_with fail
              go_roundw
              case rel => exact ⟨k + 1, p, by omega, by rfl, by go_num, HPn, hbr0⟩
              case measure => simp [intOf]; omega
            · have hlb1 : lb ≤ 35184372088832 := by omega
              have HL1 := hide hlb1
              have HCJ := hide hcj
              clear hcj
              go_wp2_with fail
              refine (lent_any Aj lb cj b _ HLB.out HL1.out (HSJ.out.below hbr0)).mono ?_
              rintro e w5 ⟨g, c5, rfl, hO5, hb5⟩
              have hbr5 := below_step hb5 hbr0
              have HQ5 := hide (q.below hb5 q.lt)
              have hfin5 := hO5.own.fin g rfl
              have HZ := hide q.lt
              have HT5 : Hid (TwoD w.heap.size (fun x => x = wr.heap.size ∨ x = g) L V pr w5 p) := hide ((HT1.out.exc (Y := fun x => x = wr.heap.size ∨ x = g) (fun x h1 h2 => h1.elim id (fun h => by have := hfin5.1; omega))).below hb5)
              have HC5 : Hid (lb + 1 ≤ c5) := hide hO5.own.le
              have HO5 := hide hO5
              have HS5 : Hid (Sl w5 (some ⟨g, 0, none⟩) (b.map bv)) := hide (by
                have := hO5.sl.take lb
                rw [List.map_append, HLB.out, List.take_left' (by simp)] at this
                exact this)
              have HX5 : Hid (∀ x, (x = wr.heap.size ∨ x = g) → x < w5.heap.size) := hide (fun x h => h.elim (fun h => by rw [h]; exact (q.below hb5 q.lt).lt) (fun h => by rw [h]; exact hfin5.2))
              have HGN := hide (Nat.le_trans hbr0.size hfin5.1)
              have q5 := HQ5.out
              clear hO5 hfin5 c0 c1' c2' c3 HZ
              have q5_c0 := q5.cell 0 rfl
              have q5_f0 := q5.frozen 0
              have q5_c1 := q5.cell 1 rfl
              have q5_f1 := q5.frozen 1
              have q5_c2 := q5.cell 2 rfl
              have q5_f2 := q5.frozen 2
              have q5_c3 := q5.cell 3 rfl
              have q5_f3 := q5.frozen 3
              go_wp2_with fail
              refine (does_any kind w (fun x => x = wr.heap.size ∨ x = g) L V pr p ix sub Aj g lb c5 cj b w5 HT5.out HX5.out hbr5 HS.out (by rw [← HN.out]; omega) HLB.out (by have := HC5.out; omega) HCJ.out HL1.out HS5.out (.inr rfl) HSJ.out).mono ?_
              rintro e w6 ⟨p6, V6, rfl, hT6, hb6, hk6⟩
              have hbr6 : Below w.heap.size w w6 := hbr5.trans hb6
              have HT6 := hide hT6
              have HO6 : Hid (Own w6 wr.heap.size 5 1 (some ⟨g, 0, none⟩) (lb + 1) c5 ((b ++ [77]).map bv)) := hide ((HO5.out.own.keep (w' := w6) (fun g' _ h hA => by injection hA with hA; injection hA with hA; exact hk6 g' (.inr hA.symm) h)).mono (by simp))
              have HQ6 : Hid (Blk w6 wr.heap.size 25 #[.int .i64 kind, .int .i64 ix, .int .i64 sub, .slice Aj lb cj]) := hide ((hk6 _ (.inl rfl) HQ5.out.lt).trans HQ5.out)
              have q6 := HQ6.out
              clear hT6 hk6
              clear q5_c0 q5_f0 q5_c1 q5_f1 q5_c2 q5_f2 q5_c3 q5_f3
              have q6_c0 := q6.cell 0 rfl
              have q6_f0 := q6.frozen 0
              have q6_c1 := q6.cell 1 rfl
              have q6_f1 := q6.frozen 1
              have q6_c2 := q6.cell 2 rfl
              have q6_f2 := q6.frozen 2
              have q6_c3 := q6.cell 3 rfl
              have q6_f3 := q6.frozen 3
              go_wp2_with fail
              refine (kept_yes g Aj lb c5 cj b _ HLB.out HL1.out HC5.out HO6.out.sl (HSJ.out.below hbr6)).mono ?_
              rintro e w7 ⟨rfl, rfl⟩
              have HOs : Hid (Own w6 wr.heap.size 5 1 (some ⟨g, 0, none⟩) lb c5 (b.map bv)) := hide (by
                have := HO6.out.shrink (Nat.le_succ lb)
                rw [List.map_append, HLB.out, List.take_left' (by simp)] at this
                rw [HLB.out]
                exact this)
              clear q6_c0 q6_f0 q6_c1 q6_f1 q6_c2 q6_f2 q6_c3 q6_f3
              go_wp2_with fail
              refine (spoil_any (some ⟨g, 0, none⟩) lb c5 0 b w6 HL1.out (HOs.out.mono (Nat.zero_le _)) (Nat.zero_le _)).mono ?_
              rintro e w7 ⟨rfl, hg7⟩
              have hT7 := (HT6.out.far (Only.of_grown (F := fun x => x = wr.heap.size ∨ x = g) hg7 (fun x h => by simp [Value.ownBlock] at h; exact .inr h.symm))).exc (Y := fun _ => False) (fun x h _ => h.elim)
              have hbr7 : Below w.heap.size w w7 := hbr6.grown hg7 hbr6.size (fun x h => by simp [Value.ownBlock] at h; have := HGN.out; omega)
              have HT7 := hide hT7
              obtain ⟨Fd, Fr, gl, n8, cl, Av, cv, ds, es, Al2, cl2, Av2, cv2, ds2, es2, T⟩ := hT7
              have HTT := hide T
              have h8 : n8 ≤ 1000 := by rw [T.hn, ← HN.out]; omega
              clear T hg7
              go_wp2_with fail
              refine (dict_values _ HTT.out.d h8).mono ?_
              rintro e w8 ⟨A8, n9, c8, ds8, rfl, hO8, hap8, hb8⟩
              have hn9 : n9 = n8 := by rw [hO8.hn, svL_len _ _ HTT.out.d.lenV, HTT.out.hn]
              subst hn9
              have HO8 := hide hO8
              have HAP8 := hide hap8
              have HB8 := hide hb8
              have hBr := HTT.out.r.blk.below hb8 HTT.out.r.blk.lt
              have HBr := hide hBr
              have zr := hBr.lt
              clear hO8 hap8
              have hBr_c0 := hBr.cell 0 rfl
              have hBr_f0 := hBr.frozen 0
              have hBr_c1 := hBr.cell 1 rfl
              have hBr_f1 := hBr.frozen 1
              go_wp2_with fail
              refine wp_region_held_drew (S := (fun w' => w'.cell? ⟨pr, 0, none⟩ = some (.slice Al2 n9 cl2) ∧ True)) (by kernel_rfl) ?hS1 (fun hHeld => ?rest1)
              case hS1 => ((try dsimp only); (exact ⟨hBr_c0, trivial⟩))
              case' rest1 => skip
              refine wpAnyH_take (i := 0) (oi := _) (v := ?v2) rfl (by kernel_rfl) (by kernel_rfl) (by kernel_rfl) (fun _ _ _ h => h) (Or.inl ⟨by rfl, ?hy2⟩) (by assumption) ?rest2
              case hy2 => ((intro w hSw; (try dsimp only at hSw); go_simp) <;> with_reducible rfl)
              case' rest2 => try simp only [List.getElem_toArray, List.getElem_cons_zero, List.getElem_cons_succ, Act.put, List.setIfInBounds_toArray, List.set_cons_zero, List.set_cons_succ]
              refine wpAnyH_take (i := 1) (oi := _) (v := ?v3) rfl (by kernel_rfl) (by kernel_rfl) (by kernel_rfl) (fun _ _ _ h => h) (Or.inl ⟨by rfl, ?hy3⟩) (by assumption) ?rest3
              case hy3 => ((intro w hSw; (try dsimp only at hSw); go_simp) <;> with_reducible rfl)
              case' rest3 => try simp only [List.getElem_toArray, List.getElem_cons_zero, List.getElem_cons_succ, Act.put, List.setIfInBounds_toArray, List.set_cons_zero, List.set_cons_succ]
              refine wpAnyH_ready (rs := [2]) (by kernel_rfl) (by simp) ?_
              refine AllReadyH.cons (o := _) rfl (fun K hK => ?_) AllReadyH.nil
              go_simp
              refine (rdic_values _ (HTT.out.r.below (HB8.out.drew)) h8).mono ?_
              rintro e w9 ⟨A9, n10, c9, ds9, rfl, hO9, _, hb9⟩
              have hn10 : n10 = n9 := by rw [hO9.hn, svL_len _ _ HTT.out.d.lenV, HTT.out.hn]
              subst hn10
              dsimp only
              replace hb9 := below_undrew hb9
              have HB9 := hide (below_step hb9 HB8.out)
              have HB89 := hide hb9
              have HO9 := hide hO9
              clear hO9 hb9
              refine hK.out _ _ ?hS6 (fun hHeld => ?rest6)
              case hS6 => ((try dsimp only); (exact ⟨(HTT.out.r.blk.below HB9.out HTT.out.r.blk.lt).cell 0 rfl, trivial⟩))
              case' rest6 => (clear hK K; try simp only [List.getElem_toArray, List.getElem_cons_zero, List.getElem_cons_succ, Act.put, List.setIfInBounds_toArray, List.set_cons_zero, List.set_cons_succ])
              refine wpAnyH_ready (rs := [3]) (by kernel_rfl) (by simp) ?_
              refine AllReadyH.cons (o := _) rfl (fun K hK => ?_) AllReadyH.nil
              go_simp
              refine (vals_same A8 A9 n10 n10 c8 c9 (svL L V6) _ (by rw [svL_len _ _ HTT.out.d.lenV, HTT.out.hn]) (by rw [svL_len _ _ HTT.out.d.lenV, HTT.out.hn]) HO8.out.own.le HO9.out.own.le (by omega) (HO8.out.below HB89.out).slV HO9.out.slV).mono ?_
              rintro e w10 ⟨rfl, hb10⟩
              dsimp only
              have HB10 := hide (below_step hb10 HB9.out)
              have HB810 := hide (below_step hb10 HB89.out)
              clear hb10
              refine hK.out _ _ ?hS9 (fun hHeld => ?rest9)
              case hS9 => ((try dsimp only); (exact ⟨(HTT.out.r.blk.below HB10.out HTT.out.r.blk.lt).cell 0 rfl, trivial⟩))
              case' rest9 => (clear hK K; try simp only [List.getElem_toArray, List.getElem_cons_zero, List.getElem_cons_succ, Act.put, List.setIfInBounds_toArray, List.set_cons_zero, List.set_cons_succ])
              refine wpAnyH_take (i := 4) (oi := _) (v := ?v10) rfl (by kernel_rfl) (by kernel_rfl) (by kernel_rfl) (fun _ _ _ h => h) (Or.inl ⟨by rfl, ?hy10⟩) (by assumption) ?rest10
              case hy10 => ((intro w hSw; (try dsimp only at hSw); go_simp) <;> with_reducible rfl)
              case' rest10 => try simp only [List.getElem_toArray, List.getElem_cons_zero, List.getElem_cons_succ, Act.put, List.setIfInBounds_toArray, List.set_cons_zero, List.set_cons_succ]
              refine wpAnyH_take (i := 5) (oi := _) (v := ?v11) rfl (by kernel_rfl) (by kernel_rfl) (by kernel_rfl) (fun _ _ _ h => h) (Or.inl ⟨by rfl, ?hy11⟩) (by assumption) ?rest11
              case hy11 => ((intro w hSw; (try dsimp only at hSw); go_simp) <;> with_reducible rfl)
              case' rest11 => try simp only [List.getElem_toArray, List.getElem_cons_zero, List.getElem_cons_succ, Act.put, List.setIfInBounds_toArray, List.set_cons_zero, List.set_cons_succ]
              refine wpAnyH_take (i := 6) (oi := _) (v := ?v12) rfl (by kernel_rfl) (by kernel_rfl) (by kernel_rfl) (fun _ _ _ h => h) (Or.inl ⟨by rfl, ?hy12⟩) (by assumption) ?rest12
              case hy12 => ((intro w hSw; (try dsimp only at hSw); go_simp) <;> with_reducible rfl)
              case' rest12 => try simp only [List.getElem_toArray, List.getElem_cons_zero, List.getElem_cons_succ, Act.put, List.setIfInBounds_toArray, List.set_cons_zero, List.set_cons_succ]
              refine wpAnyH_take (i := 8) (oi := _) (v := ?v13) rfl (by kernel_rfl) (by kernel_rfl) (by kernel_rfl) (fun _ _ _ h => h) (Or.inl ⟨by rfl, ?hy13⟩) (by assumption) ?rest13
              case hy13 => ((intro w hSw; (try dsimp only at hSw); go_simp) <;> with_reducible rfl)
              case' rest13 => try simp only [List.getElem_toArray, List.getElem_cons_zero, List.getElem_cons_succ, Act.put, List.setIfInBounds_toArray, List.set_cons_zero, List.set_cons_succ]
              refine wpAnyH_take (i := 9) (oi := _) (v := ?v14) rfl (by kernel_rfl) (by kernel_rfl) (by kernel_rfl) (fun _ _ _ h => h) (Or.inl ⟨by rfl, ?hy14⟩) (by assumption) ?rest14
              case hy14 => ((intro w hSw; (try dsimp only at hSw); go_simp) <;> with_reducible rfl)
              case' rest14 => try simp only [List.getElem_toArray, List.getElem_cons_zero, List.getElem_cons_succ, Act.put, List.setIfInBounds_toArray, List.set_cons_zero, List.set_cons_succ]
              refine wpAnyH_take (i := 10) (oi := _) (v := ?v15) rfl (by kernel_rfl) (by kernel_rfl) (by kernel_rfl) (fun _ _ _ h => h) (Or.inl ⟨by rfl, ?hy15⟩) (by assumption) ?rest15
              case hy15 => ((intro w hSw; (try dsimp only at hSw); go_simp) <;> with_reducible rfl)
              case' rest15 => try simp only [List.getElem_toArray, List.getElem_cons_zero, List.getElem_cons_succ, Act.put, List.setIfInBounds_toArray, List.set_cons_zero, List.set_cons_succ]
              refine wpAnyH_take (i := 11) (oi := _) (v := ?v16) rfl (by kernel_rfl) (by kernel_rfl) (by kernel_rfl) (fun _ _ _ h => h) (Or.inl ⟨by rfl, ?hy16⟩) (by assumption) ?rest16
              case hy16 => ((intro w hSw; (try dsimp only at hSw); go_simp) <;> with_reducible rfl)
              case' rest16 => try simp only [List.getElem_toArray, List.getElem_cons_zero, List.getElem_cons_succ, Act.put, List.setIfInBounds_toArray, List.set_cons_zero, List.set_cons_succ]
              refine wpAnyH_take (i := 12) (oi := _) (v := ?v17) rfl (by kernel_rfl) (by kernel_rfl) (by kernel_rfl) (fun _ _ _ h => h) (Or.inl ⟨by rfl, ?hy17⟩) (by assumption) ?rest17
              case hy17 => ((intro w hSw; (try dsimp only at hSw); go_simp) <;> with_reducible rfl)
              case' rest17 => try simp only [List.getElem_toArray, List.getElem_cons_zero, List.getElem_cons_succ, Act.put, List.setIfInBounds_toArray, List.set_cons_zero, List.set_cons_succ]
              refine wpAnyH_ready (rs := [7]) (by kernel_rfl) (by simp) ?_
              refine AllReadyH.cons (o := _) rfl (fun K hK => ?_) AllReadyH.nil
              go_simp
              refine (dict_len _ (HTT.out.d.below HB10.out).blk).mono ?_
              rintro e w11 ⟨rfl, hw11⟩
              subst hw11
              dsimp only
              refine hK.out _ _ ?hS20 (fun hHeld => ?rest20)
              case hS20 => ((try dsimp only); (exact ⟨(HTT.out.r.blk.below HB10.out HTT.out.r.blk.lt).cell 0 rfl, trivial⟩))
              case' rest20 => (clear hK K; try simp only [List.getElem_toArray, List.getElem_cons_zero, List.getElem_cons_succ, Act.put, List.setIfInBounds_toArray, List.set_cons_zero, List.set_cons_succ])
              refine wpAnyH_take (i := 13) (oi := _) (v := ?v21) rfl (by kernel_rfl) (by kernel_rfl) (by kernel_rfl) (fun _ _ _ h => h) (Or.inl ⟨by rfl, ?hy21⟩) (by assumption) ?rest21
              case hy21 => ((intro w hSw; (try dsimp only at hSw); go_simp) <;> with_reducible rfl)
              case' rest21 => try simp only [List.getElem_toArray, List.getElem_cons_zero, List.getElem_cons_succ, Act.put, List.setIfInBounds_toArray, List.set_cons_zero, List.set_cons_succ]
              refine wpAnyH_take (i := 14) (oi := _) (v := ?v22) rfl (by kernel_rfl) (by kernel_rfl) (by kernel_rfl) (fun _ _ _ h => h) (Or.inl ⟨by rfl, ?hy22⟩) (by assumption) ?rest22
              case hy22 => ((intro w hSw; (try dsimp only at hSw); go_simp) <;> with_reducible rfl)
              case' rest22 => try simp only [List.getElem_toArray, List.getElem_cons_zero, List.getElem_cons_succ, Act.put, List.setIfInBounds_toArray, List.set_cons_zero, List.set_cons_succ]
              refine wpAnyH_done (by kernel_rfl) ?_ _
              have hEnd := hHeld.2
              repeat (clear hHeld)
              clear hBr_c0 hBr_f0 hBr_c1 hBr_f1
              have HSV : Hid (SpoilV A8 n10 c8 (svL L V6) ds8 w7.heap.size w10 0 w10) := hide (SpoilV.start HO8.out HAP8.out HB810.out)
              have hbr10 := below_step HB10.out hbr7
              go_wp2_with fail
              go_loopw [19] (fun j wx => ∃ i, i ≤ n10 ∧ j = .int .i64 (i : Nat) ∧ Hid (SpoilV A8 n10 c8 (svL L V6) ds8 w7.heap.size w10 i wx)) (fun j _ => n10 - (intOf j).toNat)
              case atStart => exact ⟨0, by omega, rfl, HSV⟩
              case round =>
                obtain ⟨i, hi, rfl, HI⟩ := hrel
                by_cases hil : i < n10
                · obtain ⟨E, hE⟩ : ∃ E, L[i]? = some E := ⟨L[i]'(by rw [← HTT.out.hn]; exact hil), List.getElem?_eq_getElem _⟩
                  obtain ⟨v, hv⟩ : ∃ v, V6[i]? = some v := ⟨V6[i]'(by rw [HTT.out.d.lenV, ← HTT.out.hn]; exact hil), List.getElem?_eq_getElem _⟩
                  obtain ⟨gx, d, hA, z, hd, hcell, hOd, _⟩ := HI.out.at_ (svL_at hE hv)
                  subst hA
                  have HOd := hide hOd
                  have hvf : v.length ≤ 35184372088832 := HTT.out.d.fv v (List.mem_of_getElem? hv)
                  have HSTEP := hide (fun w' (h : wr.grownBy w' (Value.ownBlock (.slice d.1 v.length d.2))) => HI.out.step (svL_at hE hv) hd h)
                  obtain ⟨i1, i2, i3⟩ := idx_at hil
                  have hcell' : wr.cell? ⟨gx, i * 3 + 2, none⟩ = some (.slice d.1 v.length d.2) := hcell
                  clear hE hv hd hOd hcell
                  go_wp2_with fail
                  refine (spoil_any d.1 v.length d.2 0 v _ hvf HOd.out.own (Nat.zero_le _)).mono ?_
                  rintro e w12 ⟨rfl, hg12⟩
                  have HI12 := hide (HSTEP.out w12 hg12)
                  go_wp2_with fail
                  go_roundw
                  case rel => exact ⟨i + 1, by omega, by go_num, HI12⟩
                  case measure => simp [intOf]; omega
                · have hb7r : Below w7.heap.size w7 wr := HB10.out.trans (HI.out.2.2.2.below HB10.out.size (fun x h => h))
                  have HPn : Hid (PlayI w L pr wr p6) := hide ⟨V6, HT7.out.below hb7r⟩
                  have hbrn := below_step hb7r hbr7
                  go_wp2_with fail
                  go_roundw
                  case rel => exact ⟨k + 1, p6, by omega, by rfl, by go_num, HPn, hbrn⟩
                  case measure => simp [intOf]; omega
          · have hlt' : m ≤ k ∨ (k < m ∧ 40 ≤ k) := by omega
            rcases hlt' with h | ⟨h1, h2⟩
            all_goals
              go_wp2_with fail
              refine (known_15 _).mono ?_
              rintro e w2 ⟨rfl, hb2⟩
              go_wp2_with fail
              go_ret
              exact (⟨rfl, below_step hb2 hbr⟩ : TrueB w _ _)
  · have hp := h2 her
    subst hp
    have hez : (er' == 0) = false := by simpa using her
    clear h2 h3 h3' hnp hnp'
    go_wp2_with fail
    refine HAll.out.mono ?_
    rintro e w4 ⟨rfl, hb4'⟩
    have hb4 := below_step hb4' hb13
    have HSP : Hid (SpoilI A1 n1 c1 L ds1 w.heap.size w1.heap.size w4 0 w4) := hide (SpoilI.start HO1.out rfl HAP.out (below_step hb4' (below_step hb3 hb2)))
    clear hb4'
    go_wp2_with fail
    go_loopw [12] (fun i wr => ∃ k, k ≤ n1 ∧ i = .int .i64 (k : Nat) ∧ Hid (SpoilI A1 n1 c1 L ds1 w.heap.size w1.heap.size w4 k wr)) (fun i _ => n1 - (intOf i).toNat)
    case atStart => exact ⟨0, by omega, rfl, HSP⟩
    case round =>
      obtain ⟨k, hk, rfl, HI⟩ := hrel
      by_cases hlt : k < n1
      · obtain ⟨E, hE⟩ : ∃ E, L[k]? = some E := ⟨L[k]'(by rw [← HN.out]; exact hlt), List.getElem?_eq_getElem _⟩
        obtain ⟨g, d, hA, z, hd, hcell, hOd, hgr⟩ := HI.out.at_ hE
        subst hA
        have HD := hide hOd
        have hfe := (HFT.out E (List.mem_of_getElem? hE)).1
        have HSTEP := hide (fun w' (h : wr.grownBy w' (Value.ownBlock (.slice d.1 E.df.length d.2))) => HI.out.step hE hd h)
        obtain ⟨i1, i2, i3⟩ := idx_at hlt
        clear hE hOd hd hgr
        go_wp2_with fail
        refine (spoil_any d.1 E.df.length d.2 0 E.df _ hfe HD.out.own (Nat.zero_le _)).mono ?_
        rintro e w6 ⟨rfl, hg6⟩
        have HI6 := hide (HSTEP.out w6 hg6)
        go_wp2_with fail
        go_roundw
        case rel => first | exact ⟨k + 1, by omega, by go_num, HI6⟩ | ((repeat apply Exists.intro); refine ⟨⟨k + 1, by omega, ?_, HI6⟩, rfl⟩; go_num)
        case measure => simp [intOf]; omega
      · have HO5 := hide HI.out.2.2.2
        have hb5 := HI.out.low hb4
        clear HI
        go_wp2_with fail
        go_loopw [6, 13] (fun s6 i wx => s6 = .pointer none ∧ i = .int .i64 0 ∧ wx = wr) (fun _ _ _ => 0)
        case atStart => exact ⟨rfl, rfl, rfl⟩
        case round =>
          obtain ⟨rfl, rfl, rfl⟩ := hrel
          rcases (show m = 0 ∨ 0 < m by omega) with h0 | h0
          all_goals
            go_wp2_with fail
            refine (known_15 _).mono ?_
            rintro e w2 ⟨rfl, hb2⟩
            go_wp2_with fail
            go_ret
            exact (⟨rfl, below_step hb2 hb5⟩ : TrueB w _ _)
end Go.Proofs.Ytabgdfbiocoimaa
namespace Go.Proofs.Ytabgdfbiocoimaa.lawDictPlays
open Go.ChangeShapes Go.WideShapes Go.ChangeAt Go.RowKit Go.Joins
set_option linter.unusedVariables false

theorem own : ownKnob Try.prog.godebug = none := by kernel_rfl
theorem laidOut : laidOutB Try.prog = true := by kernel_rfl

set_option maxRecDepth 100000 in
theorem lifted (os : Os) (started : os.Started) (H : Type) (enc : TypeId × Value → H) :
    ReturnsInHanded {} Try.checked os 6 .any (Rows.dictPlaysSpec.pre6 enc Try.prog Try.f6 Rows.dictPlaysRow.domain false) (Rows.dictPlaysSpec.post enc Try.prog Try.f6 false true false false) := by
  refine returnsInHanded_of_change (C := Try.checked) own started (by kernel_rfl) Try.func6
    (ChangeSpec.witness6 (enc := enc) (C := Try.checked) false ⟨#[], #[.slice none 0 0, .slice none 0 0], []⟩ 8 (by kernel_rfl) (by kernel_rfl) (by kernel_rfl) (by kernel_rfl)) ?_
  intro W base args ds gs before hval0 hW hcnd _
  have hval : ∀ (j : Nat) t v, Try.f6.params[j]? = some t → args[j]? = some v → Value.okWide Try.prog W .any base t v := hval0
  have hW' := hW
  obtain ⟨p, q, hA0, hV, rfl, hfz, hnd⟩ := hW
  have hA : DataW.TrodAll enc Try.prog W 0 (fun _ => true) true Try.f6.params.toList args.toList ds p := hA0
  rw [Try.params6] at hA hval
  obtain ⟨v0, vs0, d0, ds0, p0, q0, hargs, rfl, rfl, h0, r0⟩ := trodAll_cons hA
  obtain ⟨v1, vs1, d1, ds1, p1, q1, rfl, rfl, rfl, h1, r1⟩ := trodAll_cons r0
  obtain ⟨rfl, rfl, rfl⟩ := trodAll_nil r1
  obtain rfl : args = #[v0, v1] := by cases args; simp_all
  obtain ⟨rfl, rfl⟩ := trodVars_none hV
  have k0 := h0
  have lt0 : ∀ x ∈ p0, x.block < W.heap.size := by obtain ⟨m, hm⟩ := k0; exact DataW.trod_lt m _ _ _ hm
  have k1 := h1
  have lt1 : ∀ x ∈ p1, x.block < W.heap.size := by obtain ⟨m, hm⟩ := k1; exact DataW.trod_lt m _ _ _ hm
  obtain ⟨a0, len0, cap0, rfl⟩ := okWide_slice Try.underlying22 (hval 0 22 v0 rfl rfl)
  obtain ⟨fu0, hm0⟩ := h0
  obtain ⟨A0, nn0, c0, L0, hv0, hn0, hc0, hD0⟩ := open_ents hm0
  injection hv0 with e01 e02 e03
  subst e01 e02 e03
  obtain ⟨a1, len1, cap1, rfl⟩ := okWide_slice Try.underlying51 (hval 1 51 v1 rfl rfl)
  obtain ⟨fu1, hm1⟩ := h1
  obtain ⟨A1, nn1, c1, L1, hv1, hn1, hc1, hD1⟩ := open_ops hm1
  injection hv1 with e11 e12 e13
  subst e11 e12 e13
  clear hA0 hval0
  refine (dictPlays_walk a0 len0 cap0 L0 a1 len1 cap1 L1 W hn0 hD0 hn1 hD1).mono fun e W' hTB => ?_
  obtain ⟨he, bel⟩ := hTB
  subst he
  exact ⟨_, rfl, _, _, _, [], _, [], hW', trodAll_mk1 (shut_bool Try.underlying4 _), (trodAll_cons_mk (Below.trod laidOut (by kernel_rfl) (of_decide_eq_true (by kernel_rfl)) k0 bel lt0) (trodAll_cons_mk (Below.trod laidOut (by kernel_rfl) (of_decide_eq_true (by kernel_rfl)) k1 bel lt1) trodAll_mk0)), rfl, bel.frame _, fun h => by cases h⟩

theorem over : Rows.dictPlaysRow.holds Try.pinned (OpenSpec.ofChange Rows.dictPlaysSpec) :=
  OpenClaim.holds_of_wide 6 Try.f6 rfl rfl rfl rfl rfl rfl rfl ⟨rfl, rfl, rfl, rfl, rfl⟩ rfl rfl rfl rfl rfl (by kernel_rfl) Try.func6 (by kernel_rfl)
    (of_decide_eq_true (by kernel_rfl)) (by unfold Func.isWrapper; first | (rw [if_pos (by decide +kernel)]; kernel_rfl) | (rw [if_neg (by decide +kernel)]; exact ⟨rfl, rfl⟩))
    (fun os started H enc _ => lifted os started H enc)

theorem proved : Rows.DictPlaysSaid := over
#print axioms proved
end Go.Proofs.Ytabgdfbiocoimaa.lawDictPlays
