/- The groups of values that are stored, plain; and the walk of SnapGroups. -/
import Derived.Test.YtabgdfbiocoimaaSnpA
import Derived.Test.YtabgdfbiocoimaaMade
import Derived.Test.YtabgdfbiocoimaaSnapC
namespace Go.Proofs.Ytabgdfbiocoimaa
set_option linter.unusedVariables false
set_option linter.unusedSimpArgs false
set_option linter.unnecessarySimpa false
open Go.RowKit
set_option maxRecDepth 100000
set_option maxHeartbeats 4000000
theorem inE_one (ix : Int) : inE ix 1 = true := by simp [inE]
theorem ofV_filter (L : List Ent) (V : List (List UInt8)) (g : Int) : ofV L V g = (ofV L V 1).filter (fun v => inE v.ix g) := by
  induction L generalizing V with
  | nil => cases V <;> rfl
  | cons E L ih =>
    cases V with
    | nil => rfl
    | cons v V =>
      rw [ofV, ofV, inE_one]
      cases hs : E.st
      · simp [ih V]
      · cases hg : inE E.ix g
        · simp [hg, ih V]
        · simp [hg, ih V]
theorem drop_own (X : List SV) (g : Int) : dropL (X.filter (fun v => inE v.ix g)) g = [] := by
  unfold dropL
  rw [List.filter_filter]
  apply List.filter_eq_nil_iff.2
  intro v _
  rw [inB_inE]
  cases inE v.ix g <;> simp
theorem drop_count (X : List SV) (g : Int) : (dropL X g).length + (X.filter (fun v => inE v.ix g)).length = X.length := by
  induction X with
  | nil => rfl
  | cons v X ih =>
    unfold dropL at *
    rw [List.filter_cons, List.filter_cons, inB_inE]
    cases inE v.ix g
    · simp; omega
    · simp; omega
theorem drop_one (X : List SV) : dropL X 1 = [] := by
  unfold dropL
  apply List.filter_eq_nil_iff.2
  intro v _
  rw [inB_inE, inE_one]
  simp
theorem drop_five (X : List SV) : dropL X 5 = X := by
  unfold dropL
  apply List.filter_eq_self.2
  intro v _
  rw [inB_inE]
  simp [inE]
theorem of_zero (L : List Ent) (V : List (List UInt8)) : ofV L V 0 = [] := by
  rw [ofV_filter]
  apply List.filter_eq_nil_iff.2
  intro v _
  simp [inE]
/-- how many lie in the groups from 2 to below k -/
def cntG (X : List SV) : Nat → Nat
  | 0 => 0
  | k + 1 => cntG X k + (if 2 ≤ k then (X.filter (fun v => inE v.ix k)).length else 0)
theorem cnt_le (X : List SV) : cntG X 5 ≤ X.length := by
  have e : ∀ X : List SV, cntG X 5 = (X.filter (fun v => inE v.ix 2)).length + (X.filter (fun v => inE v.ix 3)).length + (X.filter (fun v => inE v.ix 4)).length := by intro X; simp [cntG]
  rw [e]
  induction X with
  | nil => simp
  | cons v X ih =>
    have h : (if inE v.ix 2 = true then 1 else 0) + (if inE v.ix 3 = true then 1 else 0) + (if inE v.ix 4 = true then 1 else 0) ≤ 1 := by
      simp only [inE, decide_eq_true_eq]
      (repeat' split) <;> omega
    simp only [List.filter_cons, List.length_cons]
    (repeat' split) <;> simp_all <;> omega
theorem of_fits {T : TypeId} {w : World} {F : Nat → Prop} {p n cl cv : Nat} {Al Av : Option Addr} {L : List Ent} {V : List (List UInt8)} {ds es : List (Option Addr × Nat)} (h : DB T w F p Al n cl Av cv L V ds es) (g : Int) : fitsV (ofV L V g) := by
  have h1 := h.fv
  clear h
  induction L generalizing V with
  | nil => cases V <;> (intro v hv; simp [ofV] at hv)
  | cons E L ih =>
    cases V with
    | nil => intro v hv; simp [ofV] at hv
    | cons u V =>
      have h2 := ih (V := V) (fun v hv => h1 v (by simp [hv]))
      intro v hv
      rw [ofV] at hv
      split at hv
      · rcases List.mem_cons.1 hv with rfl | hv
        · exact h1 u (by simp)
        · exact h2 v hv
      · exact h2 v hv
theorem of_len (L : List Ent) (V : List (List UInt8)) (g : Int) : (ofV L V g).length ≤ L.length := by
  induction L generalizing V with
  | nil => cases V <;> simp [ofV]
  | cons E L ih =>
    cases V with
    | nil => simp [ofV]
    | cons u V =>
      have := ih V
      rw [ofV]
      split <;> simp <;> omega
theorem snapGroups_walk (A : Option Addr) (n c : Nat) (L : List Ent) (A2 : Option Addr) (m c2 : Nat) (X : List SV) (w : World) (hn : n = L.length) (hL : SlE w A L) (hm : m = X.length) (hc2 : m ≤ c2) (hX : SlV w A2 X) :
    Calls Try.prog 8 #[.agg #[.slice A n c, .slice A2 m c2]] w (TrueB w) := by
  have hbw := below_alloc (Below.refl w.heap.size w) (.cells #[.slice A n c, .slice A2 m c2] 72)
  have HMD := hide (made_any A n c L A2 m c2 X _ hn (hL.below hbw) hm hc2 (hX.below hbw))
  have HN := hide hn
  clear hn hL hm hc2 hX
  go_enter Try.func8, Try.ntmps8
  go_wp2_with fail
  refine HMD.out.mono ?_
  rintro e w1 ⟨vd, vr, ok, rfl, hok, hno, hb1⟩
  replace hb1 := below_step hb1 hbw
  cases ok
  · obtain ⟨rfl, rfl⟩ := hno rfl
    clear hok hno
    go_wp2_with fail
    refine (known_18 _).mono ?_
    rintro e w2 ⟨rfl, hb2⟩
    go_wp2_with fail
    go_ret
    exact (⟨rfl, below_step hb2 hb1⟩ : TrueB w _ _)
  · obtain ⟨p, pr, rfl, rfl, hT, hS, hli, _, _⟩ := hok rfl
    obtain ⟨V, hV⟩ : ∃ V, V = pokeAll L (L.map Ent.df) X := ⟨_, rfl⟩
    rw [← hV] at hT
    obtain ⟨Fd, Fr, gl, n1, cl, Av, cv, ds, es, Al2, cl2, Av2, cv2, ds2, es2, T⟩ := hT
    have HD := hide T.d
    have h200 : n1 ≤ 200 := by rw [T.hn]; exact light_len hli
    have H1 : Hid (n1 ≤ 1000) := hide (by omega)
    have HLN := hide T.hn
    clear hok hno hV T hS hli
    go_wp2_with fail
    refine (snap_of 1 _ HD.out H1.out).mono ?_
    rintro e w2 ⟨A3, n3, c3, ds3, rfl, hO3, hb2⟩
    obtain ⟨Y, hY⟩ : ∃ Y, Y = ofV L V 1 := ⟨_, rfl⟩
    rw [← hY] at hO3
    have HY := hide hY
    have HO3 := hide hO3
    have HFY : Hid (fitsV Y) := hide (by rw [hY]; exact of_fits HD.out 1)
    have hn3 : n3 ≤ 200 := by rw [hO3.hn, hY]; have := of_len L V 1; have := HLN.out; omega
    have HN3 := hide hO3.hn
    have HC3 := hide hO3.own.le
    have hb12 := below_step hb2 hb1
    clear hY hO3
    go_wp2_with fail
    go_loopw [7, 8] (fun s i wr => ∃ k : Nat, 2 ≤ k ∧ k ≤ 5 ∧ i = .int .i64 (k : Nat) ∧ s = .int .i64 (cntG Y k : Nat) ∧ cntG Y k ≤ 200 * k ∧ Below w2.heap.size w2 wr) (fun _ i _ => 5 - (intOf i).toNat)
    case atStart => exact ⟨2, by omega, by omega, rfl, rfl, by simp [cntG], Below.refl _ _⟩
    case round =>
      obtain ⟨k, hk2, hk5, rfl, rfl, hcn, hbr⟩ := hrel
      have hbr2 := below_step hbr hb2
      have hbrw := below_step hbr hb12
      by_cases hk : k ≤ 4
      · go_wp2_with fail
        refine (snap_of k _ (HD.out.below hbr2) H1.out).mono ?_
        rintro e w4 ⟨A4, n4, c4, ds4, rfl, hO4, hb4⟩
        have hZ : ofV L V k = Y.filter (fun v => inE v.ix k) := by rw [HY.out]; exact ofV_filter L V k
        have hn4 : n4 = (Y.filter (fun v => inE v.ix k)).length := by rw [hO4.hn, hZ]
        have hn4b : n4 ≤ 200 := by rw [hO4.hn]; have := of_len L V k; have := HLN.out; omega
        have HF4 : Hid (fitsV (ofV L V k)) := hide (of_fits HD.out k)
        have HO4 := hide hO4
        have HN4 := hide hO4.hn
        have HC4 := hide hO4.own.le
        have HD1 : Hid (dropL (ofV L V k) k = []) := hide (by rw [hZ]; exact drop_own Y k)
        have hD2 := drop_count Y k
        rw [← hn4, ← HN3.out] at hD2
        have hcs : cntG Y (k + 1) = cntG Y k + n4 := by rw [cntG, if_pos hk2, ← hn4]
        have hb24 := below_step hb4 hbr
        clear hO4 hZ hn4
        go_wp2_with fail
        refine (snap_drop A4 n4 c4 _ k _ HN4.out HC4.out (by omega) HO4.out.slV HF4.out).mono ?_
        rintro e w5 ⟨A5, n5, c5, ds5, rfl, hO5, hb5⟩
        have hn5 : n5 = 0 := by rw [hO5.hn, HD1.out]; rfl
        subst hn5
        clear hO5
        have hb25 := below_step hb5 hb24
        go_wp2_with fail
        refine (snap_drop A3 n3 c3 Y k _ HN3.out HC3.out (by omega) (HO3.out.below hb25).slV HFY.out).mono ?_
        rintro e w6 ⟨A6, n6, c6, ds6, rfl, hO6, hb6⟩
        have hn6 : n6 + n4 = n3 := by rw [hO6.hn]; exact hD2
        have hn6' : (n6 : Int) = (n3 : Int) - (n4 : Int) := by omega
        clear hO6 hD2
        have hb26 := below_step hb6 hb25
        go_wp2_with fail
        go_roundw
        case rel => exact ⟨k + 1, by omega, by omega, by go_num, by rw [hcs]; go_num, by omega, hb26⟩
        case measure => simp [intOf]; omega
      · have hk5' : k = 5 := by omega
        subst hk5'
        have hle := cnt_le Y
        rw [← HN3.out] at hle
        go_wp2_with fail
        refine (snap_drop A3 n3 c3 Y 1 _ HN3.out HC3.out (by omega) (HO3.out.below hbr).slV HFY.out).mono ?_
        rintro e w4 ⟨A4, n4, c4, ds4, rfl, hO4, hb4⟩
        have hn4 : n4 = 0 := by rw [hO4.hn, drop_one]; rfl
        subst hn4
        clear hO4
        have hb24 := below_step hb4 hbr
        go_wp2_with fail
        refine (snap_drop A3 n3 c3 Y 5 _ HN3.out HC3.out (by omega) (HO3.out.below hb24).slV HFY.out).mono ?_
        rintro e w5 ⟨A5, n5, c5, ds5, rfl, hO5, hb5⟩
        have hn5 : n5 = n3 := by rw [hO5.hn, drop_five, HN3.out]
        subst hn5
        clear hO5
        have hb25 := below_step hb5 hb24
        go_wp2_with fail
        refine (snap_of 0 _ (HD.out.below (below_step hb25 hb2)) H1.out).mono ?_
        rintro e w6 ⟨A6, n6, c6, ds6, rfl, hO6, hb6⟩
        have hn6 : n6 = 0 := by rw [hO6.hn, of_zero]; rfl
        subst hn6
        clear hO6
        go_wp2_with fail
        refine (known_18 _).mono ?_
        rintro e w7 ⟨rfl, hb7⟩
        go_wp2_with fail
        go_ret
        exact (⟨rfl, below_step hb7 (below_step hb6 (below_step hb25 hb12))⟩ : TrueB w _ _)
end Go.Proofs.Ytabgdfbiocoimaa
