/- Package snap: one value of bytes. -/
import Derived.Test.YtapfadaplncpeaaSnapB
namespace Go.Proofs.Ytapfadaplncpeaa
open Go.RowKit
set_option maxRecDepth 20000
set_option maxHeartbeats 1000000

/-- the value with which bytes begin, what stands behind it, and what is wrong -/
def oneS (l : List UInt8) : SV × List UInt8 × Int :=
  if l.length < 5 then (⟨0, 0, []⟩, [], 2)
  else if l.length - 5 < leN ((l.drop 3).take 2) then (⟨0, 0, []⟩, [], 2)
  else if thereB (leN (l.take 2)) ((l.getD 2 0).toNat) = false then (⟨0, 0, []⟩, [], 9)
  else (⟨leN (l.take 2), (l.getD 2 0).toNat, (l.drop 5).take (leN ((l.drop 3).take 2))⟩, (l.drop 5).drop (leN ((l.drop 3).take 2)), 0)

theorem leN2_lt (l : List UInt8) (h : l.length ≤ 2) : leN l ≤ 65535 := by
  have h1 := leN_lt l
  have h2 : 256 ^ l.length ≤ 256 ^ 2 := Nat.pow_le_pow_right (by omega) h
  omega

theorem snap_one (A : Option Addr) (n c : Nat) (l : List UInt8) (w : World) (hn : n = l.length) (hc : n ≤ c) (hl : n ≤ 35184372088832) (hs : Sl w A (l.map bv)) :
    Calls Try.prog 66 #[.slice A n c] w fun e w' => ∃ v rest er A1 c1 A2 n2 c2, e = .returned (.tuple #[.agg #[.int .i64 v.ix, .int .i64 v.sub, .slice A1 v.data.length c1], .slice A2 n2 c2, .int .i64 er]) ∧ oneS l = (v, rest, er) ∧
      OwnB w' w.heap.size A1 v.data.length c1 v.data ∧ n2 = rest.length ∧ n2 ≤ c2 ∧ c2 ≤ c ∧ (∀ W, Sl W A (l.map bv) → Sl W A2 (rest.map bv)) ∧ Below w.heap.size w w' ∧ (er = 0 → n2 + 5 + v.data.length = n ∧ 1 ≤ v.ix ∧ v.ix ≤ 65535 ∧ 0 ≤ v.sub ∧ v.sub ≤ 255) := by
  by_cases h5 : n < 5
  · have HE := hide (show oneS l = (⟨0, 0, []⟩, [], 2) by simp [oneS]; omega)
    clear hn
    go_enter Try.func66, Try.ntmps66
    go_wp2_with fail
    refine bodyPost_ret (v := .tuple #[.agg #[.int .i64 0, .int .i64 0, .slice none 0 0], .slice none 0 0, .int .i64 2]) (by simp [results, Try.results66, go_sem]) rfl ⟨⟨0, 0, []⟩, [], 2, _, _, _, _, _, rfl, HE.out, OwnB.nil _ _, rfl, Nat.le_refl _, Nat.zero_le _, fun _ _ => Sl.nil _ _, ?_, by omega⟩
    exact below_alloc (Below.refl _ _) _
  · have h5' : 5 ≤ n := by omega
    obtain ⟨x0, hx0⟩ : ∃ x0, x0 = leN (l.take 2) := ⟨_, rfl⟩
    obtain ⟨m, hm⟩ : ∃ m, m = leN ((l.drop 3).take 2) := ⟨_, rfl⟩
    have G1 : ∀ W, Sl W A (l.map bv) → Calls Try.prog 101 #[.slice A n c, .int .i64 0, .int .i64 2] W fun e w' => e = .returned (.tuple #[.int .u64 x0, .int .i64 0]) ∧ W = w' :=
      fun W h => (get_ok' A n c l 0 2 W hn hc (by omega) (by omega) (by omega) (by omega) (by omega) h).mono fun e w' h => by rw [hx0]; exact h
    have G2 : ∀ W, Sl W A (l.map bv) → Calls Try.prog 101 #[.slice A n c, .int .i64 3, .int .i64 2] W fun e w' => e = .returned (.tuple #[.int .u64 m, .int .i64 0]) ∧ W = w' :=
      fun W h => (get_ok' A n c l 3 2 W hn hc (by omega) (by omega) (by omega) (by omega) (by omega) h).mono fun e w' h => by rw [hm]; exact h
    have HG1 := hide G1
    have HG2 := hide G2
    have lx : x0 ≤ 65535 := by rw [hx0]; exact leN2_lt _ (by simp; omega)
    have lm : m ≤ 65535 := by rw [hm]; exact leN2_lt _ (by simp; omega)
    obtain ⟨bk, off, rfl, hcell⟩ := hs.byte_ (j := 2) (by omega)
    obtain ⟨b, hb⟩ : ∃ b, b = (l[2]'(by omega)).toNat := ⟨_, rfl⟩
    have hg2 : (l.getD 2 0).toNat = b := by rw [hb, List.getD_eq_getElem?_getD, List.getElem?_eq_getElem (by omega)]; rfl
    have lb : b ≤ 255 := by rw [hb]; have := (l[2]'(by omega)).toNat_lt; omega
    rw [← hb] at hcell
    have hone := oneS.eq_1 l
    rw [if_neg (by omega), ← hx0, ← hm, hg2, ← hn] at hone
    have hcut1 := fun W => cut_b (some ⟨bk, off, none⟩) n c 5 5 .i64 rfl h5' hc W
    have s5 : Sl w (cutA (some ⟨bk, off, none⟩) c 5 1) ((l.drop 5).map bv) := by rw [List.map_drop]; exact hs.cut1 (by simp; omega)
    have hcutl : (l.drop 5).length = n - 5 := by simp; omega
    clear G1 G2 hx0 hm hb hg2
    have HN := hide hn
    have HCL := hide hcutl
    clear hn hcutl
    have hzb : bk < w.heap.size := lt_of_cell hcell
    have hcell1 : (w.alloc (.cells #[.int .i64 0, .int .i64 0, .slice none 0 0] 35)).cell? ⟨bk, off + 2, none⟩ = some (.int .u8 b) := (Below.cell (below_alloc (Below.refl _ _) _) hzb).trans hcell
    by_cases hbig : n - 5 < m
    · rw [if_pos hbig] at hone
      have HO := hide hone
      clear hone
      have hbig' : (n : Int) - 5 < m := by omega
      go_enter Try.func66, Try.ntmps66
      go_wp2_with fail
      refine (HG1.out _ (hs.alloc _)).mono ?_
      rintro e w' ⟨rfl, rfl⟩
      go_wp2_with fail
      refine (HG2.out _ (hs.alloc _)).mono ?_
      rintro e w' ⟨rfl, rfl⟩
      go_wp2_with fail
      refine bodyPost_ret (v := .tuple #[.agg #[.int .i64 0, .int .i64 0, .slice none 0 0], .slice none 0 0, .int .i64 2]) (by simp [results, Try.results66, go_sem]) rfl ⟨⟨0, 0, []⟩, [], 2, _, _, _, _, _, rfl, HO.out, OwnB.nil _ _, rfl, Nat.le_refl _, Nat.zero_le _, fun _ _ => Sl.nil _ _, ?_, by omega⟩
      exact below_alloc (below_alloc (Below.refl _ _) _) _
    · rw [if_neg hbig] at hone
      have hsm : m ≤ n - 5 := by omega
      have hsm1 : (m : Int) ≤ (n : Int) - 5 := by omega
      have hsm2 : m ≤ c - 5 := by omega
      by_cases ht : thereB x0 b = true
      · rw [if_neg (by rw [ht]; simp)] at hone
        have hcut2 := fun W => cut_b (cutA (some ⟨bk, off, none⟩) c 5 1) (n - 5) (c - 5) m m .i64 rfl hsm (by omega) W
        have HO := hide hone
        clear hone
        go_enter Try.func66, Try.ntmps66
        go_wp2_with fail
        refine (HG1.out _ (hs.alloc _)).mono ?_
        rintro e w' ⟨rfl, rfl⟩
        go_wp2_with fail
        refine (HG2.out _ (hs.alloc _)).mono ?_
        rintro e w' ⟨rfl, rfl⟩
        go_wp2_with fail
        refine (snap_there _ _ _ _).mono ?_
        rintro e w1 ⟨rfl, hb1⟩
        have K0 := blk_two w 35 35 #[.int .i64 0, .int .i64 0, .slice none 0 0] #[.int .i64 x0, .int .i64 b, .slice none 0 0]
        have k1 := K0.1.below hb1 (by simp; omega)
        have k2 := K0.2.below hb1 (by simp)
        have c10 := k1.cell 0 rfl
        have c11 := k1.cell 1 rfl
        have c12 := k1.cell 2 rfl
        have f10 := k1.frozen 0
        have f11 := k1.frozen 1
        have f12 := k1.frozen 2
        have c20 := k2.cell 0 rfl
        have c21 := k2.cell 1 rfl
        have c22 := k2.cell 2 rfl
        have f20 := k2.frozen 0
        have f21 := k2.frozen 1
        have f22 := k2.frozen 2
        go_wp2_with fail
        have i1 : (0 : Int) ≤ (m : Int) := by omega
        have HH := hide (show m = ((l.drop 5).take m).length by have := HCL.out; simp at this ⊢; omega)
        have s1' : Sl (w1.setCell ⟨w.heap.size + 1, 2, none⟩ (Value.slice (cutA (some ⟨bk, off, none⟩) c 5 1) m (c - 5))) (cutA (some ⟨bk, off, none⟩) c 5 1) (((l.drop 5).take m).map bv) := by
          rw [List.map_take]
          exact (s5.below (below_set (below_step hb1 (below_alloc (below_alloc (Below.refl _ _) _) _)) (by simp) _)).take m
        have k1 := k1.far (p := ⟨w.heap.size + 1, 2, none⟩) (by simp) (Value.slice (cutA (some ⟨bk, off, none⟩) c 5 1) m (c - 5))
        have k2 := k2.set_ 2 (Value.slice (cutA (some ⟨bk, off, none⟩) c 5 1) m (c - 5))
        have hbW : Below w.heap.size w (w1.setCell ⟨w.heap.size + 1, 2, none⟩ (Value.slice (cutA (some ⟨bk, off, none⟩) c 5 1) m (c - 5))) := below_set (below_step hb1 (below_alloc (below_alloc (Below.refl _ _) _) _)) (by simp) _
        generalize w1.setCell ⟨w.heap.size + 1, 2, none⟩ (Value.slice (cutA (some ⟨bk, off, none⟩) c 5 1) m (c - 5)) = W at *
        clear c10 c11 c12 f10 f11 f12 c20 c21 c22 f20 f21 f22 K0 hcell1
        have c20 := k2.cell 0 rfl
        have c21 := k2.cell 1 rfl
        have c22 := k2.cell 2 rfl
        have z1 := k1.lt
        have z2 := k2.lt
        have hB0 := hasBlk_of (n := 3) k1 rfl
        go_region_held3 (fun w' => HasBlk w' (w.heap.size) 3 ∧ w'.cell? ⟨w.heap.size, 0, none⟩ = some (cellAt w' (w.heap.size) 0) ∧ w'.cell? ⟨w.heap.size, 1, none⟩ = some (cellAt w' (w.heap.size) 1) ∧ w'.cell? ⟨w.heap.size, 2, none⟩ = some (cellAt w' (w.heap.size) 2) ∧ w'.frozen? ⟨w.heap.size, 0, none⟩ = false ∧ w'.frozen? ⟨w.heap.size, 1, none⟩ = false ∧ w'.frozen? ⟨w.heap.size, 2, none⟩ = false ∧ (∀ p : Addr, p.block < (W).heap.size → p.block ≠ w.heap.size → w'.cell? p = (W).cell? p) ∧ World.grownBy (W) w' (some (w.heap.size))) (((try go_split_ands); refine sr3 ?_ ?_; (first | (refine hasBlk_drew ?_; assumption) | (apply hasBlk_below <;> assumption) | (refine hasBlk_alloc ?_ _; assumption) | (refine hasBlk_set3 ?_ _ _ _ _ _ _; assumption) | (refine hasBlk_set1 ?_ _ _; assumption)); (first | exact grownBy_drew0 _ _ | (apply grownBy_below <;> assumption) | (refine grownBy_alloc ?_ _; assumption) | (refine grownBy_set3 ?_ _ _ _ _ _ _; assumption) | (refine grownBy_set1 ?_ _ _; assumption)))) (first
          | (go_at_call 97; (with_reducible refine (snap_held _ _ _ _ _ _ _ HH.out (by omega) s1'.drew).mono ?_); rintro e w2 ⟨A2, c2, rfl, hO2, hb2⟩; dsimp only))
        have k3 := k1.drew.below hb2 z1
        have k4 := ((k3.set_ 0 (.int .i64 x0)).set_ 1 (.int .i64 b)).set_ 2 (.slice A2 m c2)
        have d0 := k4.cell 0 rfl
        have d1 := k4.cell 1 rfl
        have d2 := k4.cell 2 rfl
        generalize hQ : (if c - 5 = m then cutA (some (⟨bk, off, none⟩ : Addr)) c 5 1 else Option.map (fun x => x.add m) (cutA (some (⟨bk, off, none⟩ : Addr)) c 5 1)) = A9
        have HQ := hide hQ
        clear hQ
        go_wp2_with fail
        have hbf : Below w.heap.size w w2 := below_step hb2 ⟨hbW.os, hbW.tape, hbW.output, hbW.size, hbW.block⟩
        refine bodyPost_ret (v := .tuple #[.agg #[.int .i64 x0, .int .i64 b, .slice A2 m c2], .slice A9 (n - 5 - m) (c - 5 - m), .int .i64 0]) (by simp [results, Try.results66, go_sem, d0, d1, d2]) rfl ⟨⟨x0, b, (l.drop 5).take m⟩, (l.drop 5).drop m, 0, A2, c2, A9, n - 5 - m, c - 5 - m, ?_, HO.out, ?_, ?_, by omega, by omega, ?_, ?_, ?_⟩
        · rw [← HH.out]
        · rw [← HH.out]
          exact ((((hO2.mono (B' := w.heap.size + 1) (show w.heap.size + 1 ≤ W.heap.size from z1)).set_ (by simp) _).set_ (by simp) _).set_ (by simp) _).mono (by omega)
        · have := HCL.out
          simp at this ⊢
          omega
        · intro W' hW'
          have s5 : Sl W' (cutA (some ⟨bk, off, none⟩) c 5 1) ((l.drop 5).map bv) := by rw [List.map_drop]; exact hW'.cut1 (by have := HN.out; simp; omega)
          have hsr := s5.cut1 (k := m) (c := c - 5) (by have := HN.out; simp; omega)
          rw [← HQ.out, List.map_drop]
          simpa [cutA] using hsr
        · exact below_set (below_set (below_set hbf (by simp) _) (by simp) _) (by simp) _
        · intro _
          have : thereB x0 b = true := ht
          simp [thereB] at this
          have h1 := HH.out
          simp only []
          rw [← h1]
          refine ⟨by omega, by omega, by omega, by omega, by omega⟩
      · have ht' : thereB x0 b = false := by simpa using ht
        rw [if_pos ht'] at hone
        have HO := hide hone
        clear hone
        go_enter Try.func66, Try.ntmps66
        go_wp2_with fail
        refine (HG1.out _ (hs.alloc _)).mono ?_
        rintro e w' ⟨rfl, rfl⟩
        go_wp2_with fail
        refine (HG2.out _ (hs.alloc _)).mono ?_
        rintro e w' ⟨rfl, rfl⟩
        go_wp2_with fail
        refine (snap_there _ _ _ _).mono ?_
        rintro e w1 ⟨rfl, hb1⟩
        have K0 := blk_two w 35 35 #[.int .i64 0, .int .i64 0, .slice none 0 0] #[.int .i64 x0, .int .i64 b, .slice none 0 0]
        have k1 := K0.1.below hb1 (by simp; omega)
        have c10 := k1.cell 0 rfl
        have c11 := k1.cell 1 rfl
        have c12 := k1.cell 2 rfl
        have f10 := k1.frozen 0
        have f11 := k1.frozen 1
        have f12 := k1.frozen 2
        go_wp2_with fail
        have k4 := ((k1.set_ 0 (.int .i64 0)).set_ 1 (.int .i64 0)).set_ 2 (.slice none 0 0)
        have d0 := k4.cell 0 rfl
        have d1 := k4.cell 1 rfl
        have d2 := k4.cell 2 rfl
        refine bodyPost_ret (v := .tuple #[.agg #[.int .i64 0, .int .i64 0, .slice none 0 0], .slice none 0 0, .int .i64 9]) (by simp [results, Try.results66, go_sem, d0, d1, d2]) rfl ⟨⟨0, 0, []⟩, [], 9, _, _, _, _, _, rfl, HO.out, OwnB.nil _ _, rfl, Nat.le_refl _, Nat.zero_le _, fun _ _ => Sl.nil _ _, ?_, by omega⟩
        exact below_set (below_set (below_set (below_step hb1 (below_alloc (below_alloc (Below.refl _ _) _) _)) (by simp) _) (by simp) _) (by simp) _
end Go.Proofs.Ytapfadaplncpeaa
