/- Package client: messages as frames (send). -/
import Derived.Test.YthdbckbpldlkeaaCliA
import Derived.Test.YthdbckbpldlkeaaSdR
import Derived.Test.YthdbckbpldlkeaaMsF
namespace Go.Proofs.Ythdbckbpldlkeaa
set_option linter.unusedVariables false
set_option linter.unusedSimpArgs false
set_option linter.unnecessarySimpa false
open Go.RowKit Go.Maps
set_option maxRecDepth 100000
set_option maxHeartbeats 4000000
def frF (f : Frm) (d : Option Addr × Nat) : List Value := [.int .i64 f.id, .bool f.re, .slice d.1 f.data.length d.2]
theorem frF_len (f : Frm) (d : Option Addr × Nat) : (frF f d).length = 3 := rfl
theorem frF_one (f : Frm) (d : Option Addr × Nat) : ∀ u ∈ frF f d, u.oneCell' = true := by
  intro u hu
  simp [frF] at hu
  rcases hu with rfl | rfl | rfl <;> rfl
theorem infoFr : (Try.prog.info? 34).map (fun i => (i.zero, i.size, i.bytes)) = some (some (.agg #[.int .i64 0, .bool false, .slice none 0 0]), 3, 40) := by kernel_rfl
abbrev OwnFr (w : World) (F : Nat → Prop) (A : Option Addr) (n c : Nat) (L : List Frm) (ds : List (Option Addr × Nat)) : Prop := OwnF frF 3 34 Frm.data w F A n c L ds
/-- the slice at A reads as the messages L -/
def SlM (w : World) (A : Option Addr) (L : List Ms) : Prop := ∀ j M, L[j]? = some M → ∃ b off Aj cj, A = some ⟨b, off, none⟩ ∧ (w.cell? ⟨b, off + j * 14 + 0, none⟩ = some (.int .i64 M.kind) ∧ w.cell? ⟨b, off + j * 14 + 1, none⟩ = some (.int .i64 M.ix) ∧ w.cell? ⟨b, off + j * 14 + 2, none⟩ = some (.int .i64 M.sub) ∧ w.cell? ⟨b, off + j * 14 + 3, none⟩ = some (.bool M.tg) ∧ w.cell? ⟨b, off + j * 14 + 4, none⟩ = some (.bool M.la) ∧ w.cell? ⟨b, off + j * 14 + 5, none⟩ = some (.bool M.cr) ∧ w.cell? ⟨b, off + j * 14 + 6, none⟩ = some (.bool M.sz) ∧ w.cell? ⟨b, off + j * 14 + 7, none⟩ = some (.int .u32 (M.size : Nat)) ∧ w.cell? ⟨b, off + j * 14 + 8, none⟩ = some (.int .u32 (M.code : Nat)) ∧ w.cell? ⟨b, off + j * 14 + 9, none⟩ = some (.slice Aj M.data.length cj) ∧ w.cell? ⟨b, off + j * 14 + 10, none⟩ = some (.int .i64 M.sq) ∧ w.cell? ⟨b, off + j * 14 + 11, none⟩ = some (.int .i64 M.bl) ∧ w.cell? ⟨b, off + j * 14 + 12, none⟩ = some (.int .i64 M.em) ∧ w.cell? ⟨b, off + j * 14 + 13, none⟩ = some (.int .u16 (M.sum : Nat))) ∧ Sl w Aj (M.data.map bv)
theorem SlM.below {w w' : World} {A : Option Addr} {L : List Ms} (h : SlM w A L) (hb : Below w.heap.size w w') : SlM w' A L := by
  intro j M hM
  obtain ⟨b, off, Aj, cj, hA, ⟨c0, c1, c2, c3, c4, c5, c6, c7, c8, c9, c10, c11, c12, c13⟩, hs⟩ := h j M hM
  have k : ∀ {p v}, w.cell? p = some v → w'.cell? p = some v := fun hc => (hb.cell (lt_of_cell hc)).trans hc
  exact ⟨b, off, Aj, cj, hA, ⟨k c0, k c1, k c2, k c3, k c4, k c5, k c6, k c7, k c8, k c9, k c10, k c11, k c12, k c13⟩, hs.below hb⟩
theorem slm_one {w : World} {g : Nat} {M : Ms} {A : Option Addr} {n c : Nat} (hB : Blk w g 63 (msV M A n c)) (hn : n = M.data.length) (hs : Sl w A (M.data.map bv)) : SlM w (some ⟨g, 0, none⟩) [M] := by
  intro j N hN
  cases j with
  | succ j => simp at hN
  | zero =>
    simp at hN
    subst hN
    subst hn
    exact ⟨g, 0, A, c, rfl, ⟨hB.cell 0 rfl, hB.cell 1 rfl, hB.cell 2 rfl, hB.cell 3 rfl, hB.cell 4 rfl, hB.cell 5 rfl, hB.cell 6 rfl, hB.cell 7 rfl, hB.cell 8 rfl, hB.cell 9 rfl, hB.cell 10 rfl, hB.cell 11 rfl, hB.cell 12 rfl, hB.cell 13 rfl⟩, hs⟩
theorem slm_own {w : World} {F : Nat → Prop} {A : Option Addr} {n c : Nat} {L : List Ms} {ds : List (Option Addr × Nat)} (h : OwnM w F A n c L ds) : SlM w A L := by
  intro j M hM
  obtain ⟨d, hd, hO, _⟩ := h.elem hM
  obtain ⟨g, hA, _, hc⟩ := h.cells msF_len hM hd (by omega)
  refine ⟨g, 0, d.1, d.2, hA, ?_, hO.sl⟩
  simp only [Nat.zero_add]
  exact ⟨hc 0 _ rfl, hc 1 _ rfl, hc 2 _ rfl, hc 3 _ rfl, hc 4 _ rfl, hc 5 _ rfl, hc 6 _ rfl, hc 7 _ rfl, hc 8 _ rfl, hc 9 _ rfl, hc 10 _ rfl, hc 11 _ rfl, hc 12 _ rfl, hc 13 _ rfl⟩
theorem frmL_step (id : Int) (L : List Ms) (k : Nat) (M : Ms) (h : L[k]? = some M) : frmL id (L.take (k + 1)) = if canB M = true then frmL id (L.take k) ++ [⟨id, false, laidB M⟩] else frmL id (L.take k) := by
  obtain ⟨hk, hx⟩ := List.getElem?_eq_some_iff.1 h
  rw [List.take_succ_eq_append_getElem hk, hx]
  unfold frmL
  rw [List.filter_append, List.map_append]
  by_cases hc : canB M = true
  · rw [if_pos hc, List.filter_cons_of_pos hc]; rfl
  · rw [if_neg hc, List.filter_cons_of_neg hc]; simp
theorem ownF_block {α : Type} {f : α → Option Addr × Nat → List Value} {k : Nat} {e : TypeId} {dat : α → List UInt8} {w : World} {F : Nat → Prop} {A : Option Addr} {n c g : Nat} {L : List α} {ds : List (Option Addr × Nat)} (h : OwnF f k e dat w F A n c L ds) (hg : Value.ownBlock (.slice A n c) = some g) : F g := by
  rcases h.own.shape with ⟨rfl, _⟩ | ⟨q, rfl, _⟩
  · simp [Value.ownBlock] at hg
  · simp [Value.ownBlock] at hg
    subst hg
    exact h.inF _ rfl
theorem tfr8 : (5 : TypeId) ≠ 34 := by decide
def MsOk (M : Ms) : Prop := M.size ≤ 4294967295 ∧ M.code ≤ 4294967295 ∧ M.sum ≤ 65535
def SendR (id : Int) (L : List Ms) (W : World) (e : Ending) (W' : World) : Prop :=
  ∃ A' n' c' ds, e = .returned (.slice A' n' c') ∧ OwnFr W' (fun g => W.heap.size ≤ g) A' n' c' (frmL id L) ds ∧ Below W.heap.size W W'
theorem cl_send (p : Nat) (id : Int) (L : List Ms) (A : Option Addr) (n c : Nat) (W : World) (h1 : W.cell? ⟨p, 1, none⟩ = some (.int .i64 id)) (hn : n = L.length) (hL : SlM W A L) (hu : ∀ M ∈ L, MsOk M) (hl : n ≤ 1000) :
    Calls Try.prog 28 #[.pointer (some ⟨p, 0, none⟩), .slice A n c] W (SendR id L W) := by
  have HL := hide hL
  have HU := hide hu
  have HN := hide hn
  have hz := lt_of_cell h1
  simp only at hz
  clear hL hu hn
  obtain ⟨i0, hi0, hz0, hz1, hz2⟩ := info_parts infoFr
  go_enter Try.func28, Try.ntmps28
  go_wp2_with fail
  go_loopw [5, 7, 8, 9, 12, 13, 14, 15, 16, 17, 18, 19, 20, 21, 22, 23, 24, 25, 26, 27, 28, 29, 30, 31, 32] (fun v5 _ _ _ v12 _ _ _ _ _ _ _ _ _ _ _ _ _ _ _ _ _ _ _ _ wr => ∃ k A' m' c' ds, v12 = .int .i64 (k : Nat) ∧ v5 = .slice A' m' c' ∧ k ≤ n ∧ Hid (OwnFr wr (fun g => W.heap.size ≤ g) A' m' c' (frmL id (L.take k)) ds ∧ Below W.heap.size W wr)) (fun _ _ _ _ v12 _ _ _ _ _ _ _ _ _ _ _ _ _ _ _ _ _ _ _ _ _ => n - (intOf v12).toNat)
  case atStart => exact ⟨0, none, 0, 0, [], rfl, rfl, Nat.zero_le _, hide ⟨OwnF.nil _ _, Below.refl _ _⟩⟩
  case round =>
    obtain ⟨k, A', m', c', ds, rfl, rfl, hk, HR⟩ := hrel
    by_cases hlt : k < n
    · obtain ⟨M, hM⟩ : ∃ M, L[k]? = some M := ⟨L[k]'(by rw [← HN.out]; exact hlt), List.getElem?_eq_getElem _⟩
      have HM := hide hM
      obtain ⟨b, off, Aj, cj, hA, ⟨c0, c1, c2, c3, c4, c5, c6, c7, c8, c9, c10, c11, c12, c13⟩, hs⟩ := (HL.out.below HR.out.2) k M hM
      subst hA
      replace c0 : wr.cell? ⟨b, off + k * 14, none⟩ = some (.int .i64 M.kind) := c0
      have HS := hide (hs.alloc (.cells (msV M Aj M.data.length cj) 63))
      have q := blk_one wr 63 (msV M Aj M.data.length cj)
      have HB := hide (below_alloc HR.out.2 (.cells (msV M Aj M.data.length cj) 63))
      have HO := hide (HR.out.1.below (below_alloc (Below.refl _ _) (.cells (msV M Aj M.data.length cj) 63)))
      have zr := HR.out.2.size
      have hU := HU.out M (List.mem_of_getElem? hM)
      have h1r : wr.cell? ⟨p, 1, none⟩ = some (.int .i64 id) := (HR.out.2.cell hz).trans h1
      have HBD := hide (fun W' (h : Sl W' Aj (M.data.map bv)) => sd_build M Aj M.data.length cj W' rfl h hU.1 hU.2.1 hU.2.2)
      unfold msV at q HB HO HBD HS
      obtain ⟨q_c0, q_c1, q_c2, q_c3, q_c4, q_c5, q_c6, q_c7, q_c8, q_c9, q_c10, q_c11, q_c12, q_c13⟩ := cel14 q
      have q_f := q.frozen
      clear hM hs hU
      go_wp2_with fail
      refine (HBD.out _ HS.out).mono ?_
      rintro e w2 ⟨A2, n2, c2, rfl, hO2, hb2⟩
      have HB2 := hide (HB.out.trans (hb2.mono (Nat.le_trans zr (by simp))))
      have HO2 := hide (HO.out.below hb2)
      have z2 : wr.heap.size + 1 ≤ w2.heap.size := by have := hb2.size; simpa using this
      have h12 : w2.cell? ⟨p, 1, none⟩ = some (.int .i64 id) := (HB2.out.cell hz).trans h1
      have zp2 : p < w2.heap.size := by omega
      have HST := hide (frmL_step id L k M HM.out)
      clear h1r hb2
      by_cases hc : canB M = true
      · rw [if_pos hc] at hO2 ⊢
        rw [if_pos hc] at HST
        obtain rfl : n2 = (laidB M).length := hO2.hn
        have HOd := hide (hO2.mono (Nat.zero_le _))
        have HFd := hide (hO2.own.fin.mono (G := fun g => W.heap.size ≤ g) (fun g h => by have := h.1; simp at this; omega))
        have hml : m' = (frmL id (L.take k)).length := HO2.out.hn
        have hml2 : (frmL id (L.take k)).length ≤ n := by
          have h1 := List.length_filter_le canB (L.take k)
          have h2 := List.length_take_le k L
          unfold frmL
          rw [List.length_map]
          omega
        have hm1 : m' ≤ 1000 := by omega
        clear hc hO2 hml hml2
        go_wp2_with (at_builtin; refine app_f _ rfl _ _ 37 rfl frF_len frF_one tfr8 i0 _ 40 Try.underlying37 hi0 hz0 hz1 hz2 rfl (by omega) (by omega) A' m' c' (frmL id (L.take k)) ds rfl (HO2.out.below (below_alloc (Below.refl _ _) _)) ⟨id, false, laidB M⟩ (A2, c2) _ rfl (by exact (blk_one _ _ _).sl) (HOd.out.alloc _) HFd.out (fun g h => by simp at h; omega) (by omega) (m' + 1) rfl ?_; intro A4 c4 w4 hO4 hg4 hr4)
        have hgb : Below W.heap.size (w2.alloc (.cells #[.int .i64 id, .bool false, .slice A2 (laidB M).length c2] 34)) w4 := (Only.of_grown (F := fun g => W.heap.size ≤ g) hg4 (fun g e => ownF_block HO2.out e)).below (by simp; omega) (fun i h => h)
        exact ⟨⟨k + 1, A4, m' + 1, c4, _, by congr 1, rfl, by omega, hide ⟨by rw [HST]; exact hO4, (below_alloc HB2.out _).trans hgb⟩⟩, by simp only [intOf]; omega⟩
      · rw [if_neg hc] at hO2 ⊢
        rw [if_neg hc] at HST
        clear hc hO2
        go_wp2_with fail
        exact ⟨⟨k + 1, A', m', c', ds, by congr 1, rfl, by omega, hide ⟨by rw [HST]; exact HO2.out, HB2.out⟩⟩, by simp only [intOf]; omega⟩
    · obtain rfl : k = n := by omega
      go_wp2_with fail
      go_ret
      refine ⟨A', m', c', ds, rfl, ?_, HR.out.2⟩
      have := HR.out.1
      rwa [HN.out, List.take_length] at this
end Go.Proofs.Ythdbckbpldlkeaa
