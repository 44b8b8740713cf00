/- Package sdomsg: Request, Answer, Segment. -/
import Derived.Test.YtcncbmlacphclaaSdR2
namespace Go.Proofs.Ytcncbmlacphclaa
set_option linter.unusedVariables false
set_option linter.unusedSimpArgs false
set_option linter.unnecessarySimpa false
open Go.RowKit
set_option maxRecDepth 100000
set_option maxHeartbeats 2000000

theorem sd_read (ks : List Int) (A : Option Addr) (n c : Nat) (gk nk ck : Nat) (b : List UInt8) (w : World) (hn : n = b.length) (hc : n ≤ c) (hs : Sl w A (b.map bv)) (hnk : nk = ks.length) (hk : Sl w (some ⟨gk, 0, none⟩) (ks.map iv)) (hkl : nk ≤ 100) :
    Calls Try.prog 69 #[.slice A n c, .slice (some ⟨gk, 0, none⟩) nk ck] w (ReadR ks b w) := by
  subst hnk
  by_cases h8 : b.length = 8
  · obtain rfl : n = 8 := by omega
    exact sd_read8 ks A c gk ck b w h8 hc hs hk hkl
  · exact sd_read_len ks A n c _ b w hn h8
theorem sl_blk {w : World} {g t : Nat} {ks : List Int} {cs : Array Value} (h : Blk w g t cs) (e : cs.toList = ks.map iv) : Sl w (some ⟨g, 0, none⟩) (ks.map iv) := by rw [← e]; exact h.sl
theorem sd_request (A : Option Addr) (n c : Nat) (b : List UInt8) (w : World) (hn : n = b.length) (hc : n ≤ c) (hs : Sl w A (b.map bv)) :
    Calls Try.prog 37 #[.slice A n c] w (ReadR reqK b w) := by
  have HE : Hid (∀ A' n' c' w', OwnB w' w.heap.size A' n' c' (resM reqK b).data → Below w.heap.size w w' → ReadR reqK b w (.returned (.tuple #[.agg (msV (resM reqK b) A' n' c'), .int .i64 (errI reqK b)])) w') := hide (fun A' n' c' w' h1 h2 => ⟨A', n', c', rfl, h1, h2⟩)
  obtain ⟨P, hP⟩ : ∃ P, P = ReadR reqK b w := ⟨_, rfl⟩
  rw [← hP] at HE ⊢
  clear hP
  have HB := hide (fun W gk nk ck h1 h2 h3 => sd_read reqK A n c gk nk ck b W hn hc h1 (show nk = 11 from h3) h2 (by omega))
  have q := blk_two w 44 3 #[.int .i64 0, .int .i64 0, .int .i64 0, .bool false, .bool false, .bool false, .bool false, .int .u32 0, .int .u32 0, .slice none 0 0, .int .i64 0, .int .i64 0, .int .i64 0, .int .u16 0] #[.int .i64 1, .int .i64 2, .int .i64 3, .int .i64 4, .int .i64 5, .int .i64 6, .int .i64 7, .int .i64 8, .int .i64 9, .int .i64 10, .int .i64 11]
  have hs1 := (hs.alloc (.cells #[.int .i64 0, .int .i64 0, .int .i64 0, .bool false, .bool false, .bool false, .bool false, .int .u32 0, .int .u32 0, .slice none 0 0, .int .i64 0, .int .i64 0, .int .i64 0, .int .u16 0] 44)).alloc (.cells #[.int .i64 1, .int .i64 2, .int .i64 3, .int .i64 4, .int .i64 5, .int .i64 6, .int .i64 7, .int .i64 8, .int .i64 9, .int .i64 10, .int .i64 11] 3)
  clear hn hc
  go_enter Try.func37, Try.ntmps37
  go_wp2_with fail
  obtain ⟨q0, q1⟩ := q
  have lq := q0.lt
  have hbw : Below w.heap.size w ((w.alloc (.cells #[.int .i64 0, .int .i64 0, .int .i64 0, .bool false, .bool false, .bool false, .bool false, .int .u32 0, .int .u32 0, .slice none 0 0, .int .i64 0, .int .i64 0, .int .i64 0, .int .u16 0] 44)).alloc (.cells #[.int .i64 1, .int .i64 2, .int .i64 3, .int .i64 4, .int .i64 5, .int .i64 6, .int .i64 7, .int .i64 8, .int .i64 9, .int .i64 10, .int .i64 11] 3)) := (by repeat' (first | with_reducible assumption | with_reducible exact Below.refl _ _ | with_reducible apply below_alloc | with_reducible apply below_drew1 | with_reducible apply below_drewN | (with_reducible apply below_step; with_reducible assumption) | (with_reducible apply below_sg2; (first | exact Nat.le_refl _ | (simp; done) | omega))))
  have hsz : w.heap.size ≤ ((w.alloc (.cells #[.int .i64 0, .int .i64 0, .int .i64 0, .bool false, .bool false, .bool false, .bool false, .int .u32 0, .int .u32 0, .slice none 0 0, .int .i64 0, .int .i64 0, .int .i64 0, .int .u16 0] 44)).alloc (.cells #[.int .i64 1, .int .i64 2, .int .i64 3, .int .i64 4, .int .i64 5, .int .i64 6, .int .i64 7, .int .i64 8, .int .i64 9, .int .i64 10, .int .i64 11] 3)).heap.size := hbw.size
  generalize (w.alloc (.cells #[.int .i64 0, .int .i64 0, .int .i64 0, .bool false, .bool false, .bool false, .bool false, .int .u32 0, .int .u32 0, .slice none 0 0, .int .i64 0, .int .i64 0, .int .i64 0, .int .u16 0] 44)).alloc (.cells #[.int .i64 1, .int .i64 2, .int .i64 3, .int .i64 4, .int .i64 5, .int .i64 6, .int .i64 7, .int .i64 8, .int .i64 9, .int .i64 10, .int .i64 11] 3) = W at *
  refine (HB.out W _ 11 11 hs1 (sl_blk q1 rfl) rfl).mono ?_
  rintro e w2 ⟨A2, n2, c2, rfl, hO2, hb2⟩
  generalize resM reqK b = N at *
  generalize errI reqK b = er at *
  replace hbw := below_step hb2 hbw
  have qr := q0.below hb2 lq
  obtain ⟨kind, ix, sub, tg, la, cr, sz, size, code, data, sq, bl, em, sum⟩ := N
  simp only [msV] at hO2 HE ⊢
  have qr_c0 := qr.cell 0 rfl
  have qr_f0 := qr.frozen 0
  have qr_c1 := qr.cell 1 rfl
  have qr_f1 := qr.frozen 1
  have qr_c2 := qr.cell 2 rfl
  have qr_f2 := qr.frozen 2
  have qr_c3 := qr.cell 3 rfl
  have qr_f3 := qr.frozen 3
  have qr_c4 := qr.cell 4 rfl
  have qr_f4 := qr.frozen 4
  have qr_c5 := qr.cell 5 rfl
  have qr_f5 := qr.frozen 5
  have qr_c6 := qr.cell 6 rfl
  have qr_f6 := qr.frozen 6
  have qr_c7 := qr.cell 7 rfl
  have qr_f7 := qr.frozen 7
  have qr_c8 := qr.cell 8 rfl
  have qr_f8 := qr.frozen 8
  have qr_c9 := qr.cell 9 rfl
  have qr_f9 := qr.frozen 9
  have qr_c10 := qr.cell 10 rfl
  have qr_f10 := qr.frozen 10
  have qr_c11 := qr.cell 11 rfl
  have qr_f11 := qr.frozen 11
  have qr_c12 := qr.cell 12 rfl
  have qr_f12 := qr.frozen 12
  have qr_c13 := qr.cell 13 rfl
  have qr_f13 := qr.frozen 13
  clear q0 q1 hs1
  go_wp2_with fail
  refine bodyPost_ret (v := .tuple #[.agg #[.int .i64 kind, .int .i64 ix, .int .i64 sub, .bool tg, .bool la, .bool cr, .bool sz, .int .u32 (size : Nat), .int .u32 (code : Nat), .slice A2 n2 c2, .int .i64 sq, .int .i64 bl, .int .i64 em, .int .u16 (sum : Nat)], .int .i64 er]) (by simp [results, Try.results37, go_sem, qr_c0, qr_f0, qr_c1, qr_f1, qr_c2, qr_f2, qr_c3, qr_f3, qr_c4, qr_f4, qr_c5, qr_f5, qr_c6, qr_f6, qr_c7, qr_f7, qr_c8, qr_f8, qr_c9, qr_f9, qr_c10, qr_f10, qr_c11, qr_f11, qr_c12, qr_f12, qr_c13, qr_f13]) rfl (HE.out A2 n2 c2 _ ?_ ?_)
  · exact (own_row14 hO2 lq _ _ _ _ _ _ _ _ _ _ _ _ _ _).mono hsz
  · repeat' (first | with_reducible assumption | with_reducible exact Below.refl _ _ | with_reducible apply below_alloc | with_reducible apply below_drew1 | with_reducible apply below_drewN | (with_reducible apply below_step; with_reducible assumption) | (with_reducible apply below_sg2; (first | exact Nat.le_refl _ | (simp; done) | omega)))
theorem sd_answer (A : Option Addr) (n c : Nat) (b : List UInt8) (w : World) (hn : n = b.length) (hc : n ≤ c) (hs : Sl w A (b.map bv)) :
    Calls Try.prog 38 #[.slice A n c] w (ReadR ansK b w) := by
  have HE : Hid (∀ A' n' c' w', OwnB w' w.heap.size A' n' c' (resM ansK b).data → Below w.heap.size w w' → ReadR ansK b w (.returned (.tuple #[.agg (msV (resM ansK b) A' n' c'), .int .i64 (errI ansK b)])) w') := hide (fun A' n' c' w' h1 h2 => ⟨A', n', c', rfl, h1, h2⟩)
  obtain ⟨P, hP⟩ : ∃ P, P = ReadR ansK b w := ⟨_, rfl⟩
  rw [← hP] at HE ⊢
  clear hP
  have HB := hide (fun W gk nk ck h1 h2 h3 => sd_read ansK A n c gk nk ck b W hn hc h1 (show nk = 10 from h3) h2 (by omega))
  have q := blk_two w 44 3 #[.int .i64 0, .int .i64 0, .int .i64 0, .bool false, .bool false, .bool false, .bool false, .int .u32 0, .int .u32 0, .slice none 0 0, .int .i64 0, .int .i64 0, .int .i64 0, .int .u16 0] #[.int .i64 1, .int .i64 12, .int .i64 13, .int .i64 14, .int .i64 15, .int .i64 16, .int .i64 17, .int .i64 18, .int .i64 19, .int .i64 20]
  have hs1 := (hs.alloc (.cells #[.int .i64 0, .int .i64 0, .int .i64 0, .bool false, .bool false, .bool false, .bool false, .int .u32 0, .int .u32 0, .slice none 0 0, .int .i64 0, .int .i64 0, .int .i64 0, .int .u16 0] 44)).alloc (.cells #[.int .i64 1, .int .i64 12, .int .i64 13, .int .i64 14, .int .i64 15, .int .i64 16, .int .i64 17, .int .i64 18, .int .i64 19, .int .i64 20] 3)
  clear hn hc
  go_enter Try.func38, Try.ntmps38
  go_wp2_with fail
  obtain ⟨q0, q1⟩ := q
  have lq := q0.lt
  have hbw : Below w.heap.size w ((w.alloc (.cells #[.int .i64 0, .int .i64 0, .int .i64 0, .bool false, .bool false, .bool false, .bool false, .int .u32 0, .int .u32 0, .slice none 0 0, .int .i64 0, .int .i64 0, .int .i64 0, .int .u16 0] 44)).alloc (.cells #[.int .i64 1, .int .i64 12, .int .i64 13, .int .i64 14, .int .i64 15, .int .i64 16, .int .i64 17, .int .i64 18, .int .i64 19, .int .i64 20] 3)) := (by repeat' (first | with_reducible assumption | with_reducible exact Below.refl _ _ | with_reducible apply below_alloc | with_reducible apply below_drew1 | with_reducible apply below_drewN | (with_reducible apply below_step; with_reducible assumption) | (with_reducible apply below_sg2; (first | exact Nat.le_refl _ | (simp; done) | omega))))
  have hsz : w.heap.size ≤ ((w.alloc (.cells #[.int .i64 0, .int .i64 0, .int .i64 0, .bool false, .bool false, .bool false, .bool false, .int .u32 0, .int .u32 0, .slice none 0 0, .int .i64 0, .int .i64 0, .int .i64 0, .int .u16 0] 44)).alloc (.cells #[.int .i64 1, .int .i64 12, .int .i64 13, .int .i64 14, .int .i64 15, .int .i64 16, .int .i64 17, .int .i64 18, .int .i64 19, .int .i64 20] 3)).heap.size := hbw.size
  generalize (w.alloc (.cells #[.int .i64 0, .int .i64 0, .int .i64 0, .bool false, .bool false, .bool false, .bool false, .int .u32 0, .int .u32 0, .slice none 0 0, .int .i64 0, .int .i64 0, .int .i64 0, .int .u16 0] 44)).alloc (.cells #[.int .i64 1, .int .i64 12, .int .i64 13, .int .i64 14, .int .i64 15, .int .i64 16, .int .i64 17, .int .i64 18, .int .i64 19, .int .i64 20] 3) = W at *
  refine (HB.out W _ 10 10 hs1 (sl_blk q1 rfl) rfl).mono ?_
  rintro e w2 ⟨A2, n2, c2, rfl, hO2, hb2⟩
  generalize resM ansK b = N at *
  generalize errI ansK b = er at *
  replace hbw := below_step hb2 hbw
  have qr := q0.below hb2 lq
  obtain ⟨kind, ix, sub, tg, la, cr, sz, size, code, data, sq, bl, em, sum⟩ := N
  simp only [msV] at hO2 HE ⊢
  have qr_c0 := qr.cell 0 rfl
  have qr_f0 := qr.frozen 0
  have qr_c1 := qr.cell 1 rfl
  have qr_f1 := qr.frozen 1
  have qr_c2 := qr.cell 2 rfl
  have qr_f2 := qr.frozen 2
  have qr_c3 := qr.cell 3 rfl
  have qr_f3 := qr.frozen 3
  have qr_c4 := qr.cell 4 rfl
  have qr_f4 := qr.frozen 4
  have qr_c5 := qr.cell 5 rfl
  have qr_f5 := qr.frozen 5
  have qr_c6 := qr.cell 6 rfl
  have qr_f6 := qr.frozen 6
  have qr_c7 := qr.cell 7 rfl
  have qr_f7 := qr.frozen 7
  have qr_c8 := qr.cell 8 rfl
  have qr_f8 := qr.frozen 8
  have qr_c9 := qr.cell 9 rfl
  have qr_f9 := qr.frozen 9
  have qr_c10 := qr.cell 10 rfl
  have qr_f10 := qr.frozen 10
  have qr_c11 := qr.cell 11 rfl
  have qr_f11 := qr.frozen 11
  have qr_c12 := qr.cell 12 rfl
  have qr_f12 := qr.frozen 12
  have qr_c13 := qr.cell 13 rfl
  have qr_f13 := qr.frozen 13
  clear q0 q1 hs1
  go_wp2_with fail
  refine bodyPost_ret (v := .tuple #[.agg #[.int .i64 kind, .int .i64 ix, .int .i64 sub, .bool tg, .bool la, .bool cr, .bool sz, .int .u32 (size : Nat), .int .u32 (code : Nat), .slice A2 n2 c2, .int .i64 sq, .int .i64 bl, .int .i64 em, .int .u16 (sum : Nat)], .int .i64 er]) (by simp [results, Try.results38, go_sem, qr_c0, qr_f0, qr_c1, qr_f1, qr_c2, qr_f2, qr_c3, qr_f3, qr_c4, qr_f4, qr_c5, qr_f5, qr_c6, qr_f6, qr_c7, qr_f7, qr_c8, qr_f8, qr_c9, qr_f9, qr_c10, qr_f10, qr_c11, qr_f11, qr_c12, qr_f12, qr_c13, qr_f13]) rfl (HE.out A2 n2 c2 _ ?_ ?_)
  · exact (own_row14 hO2 lq _ _ _ _ _ _ _ _ _ _ _ _ _ _).mono hsz
  · repeat' (first | with_reducible assumption | with_reducible exact Below.refl _ _ | with_reducible apply below_alloc | with_reducible apply below_drew1 | with_reducible apply below_drewN | (with_reducible apply below_step; with_reducible assumption) | (with_reducible apply below_sg2; (first | exact Nat.le_refl _ | (simp; done) | omega)))
theorem sd_segment (A : Option Addr) (n c : Nat) (b : List UInt8) (w : World) (hn : n = b.length) (hc : n ≤ c) (hs : Sl w A (b.map bv)) :
    Calls Try.prog 39 #[.slice A n c] w (ReadR segK b w) := by
  have HE : Hid (∀ A' n' c' w', OwnB w' w.heap.size A' n' c' (resM segK b).data → Below w.heap.size w w' → ReadR segK b w (.returned (.tuple #[.agg (msV (resM segK b) A' n' c'), .int .i64 (errI segK b)])) w') := hide (fun A' n' c' w' h1 h2 => ⟨A', n', c', rfl, h1, h2⟩)
  obtain ⟨P, hP⟩ : ∃ P, P = ReadR segK b w := ⟨_, rfl⟩
  rw [← hP] at HE ⊢
  clear hP
  have HB := hide (fun W gk nk ck h1 h2 h3 => sd_read segK A n c gk nk ck b W hn hc h1 (show nk = 1 from h3) h2 (by omega))
  have q := blk_two w 44 3 #[.int .i64 0, .int .i64 0, .int .i64 0, .bool false, .bool false, .bool false, .bool false, .int .u32 0, .int .u32 0, .slice none 0 0, .int .i64 0, .int .i64 0, .int .i64 0, .int .u16 0] #[.int .i64 21]
  have hs1 := (hs.alloc (.cells #[.int .i64 0, .int .i64 0, .int .i64 0, .bool false, .bool false, .bool false, .bool false, .int .u32 0, .int .u32 0, .slice none 0 0, .int .i64 0, .int .i64 0, .int .i64 0, .int .u16 0] 44)).alloc (.cells #[.int .i64 21] 3)
  clear hn hc
  go_enter Try.func39, Try.ntmps39
  go_wp2_with fail
  obtain ⟨q0, q1⟩ := q
  have lq := q0.lt
  have hbw : Below w.heap.size w ((w.alloc (.cells #[.int .i64 0, .int .i64 0, .int .i64 0, .bool false, .bool false, .bool false, .bool false, .int .u32 0, .int .u32 0, .slice none 0 0, .int .i64 0, .int .i64 0, .int .i64 0, .int .u16 0] 44)).alloc (.cells #[.int .i64 21] 3)) := (by repeat' (first | with_reducible assumption | with_reducible exact Below.refl _ _ | with_reducible apply below_alloc | with_reducible apply below_drew1 | with_reducible apply below_drewN | (with_reducible apply below_step; with_reducible assumption) | (with_reducible apply below_sg2; (first | exact Nat.le_refl _ | (simp; done) | omega))))
  have hsz : w.heap.size ≤ ((w.alloc (.cells #[.int .i64 0, .int .i64 0, .int .i64 0, .bool false, .bool false, .bool false, .bool false, .int .u32 0, .int .u32 0, .slice none 0 0, .int .i64 0, .int .i64 0, .int .i64 0, .int .u16 0] 44)).alloc (.cells #[.int .i64 21] 3)).heap.size := hbw.size
  generalize (w.alloc (.cells #[.int .i64 0, .int .i64 0, .int .i64 0, .bool false, .bool false, .bool false, .bool false, .int .u32 0, .int .u32 0, .slice none 0 0, .int .i64 0, .int .i64 0, .int .i64 0, .int .u16 0] 44)).alloc (.cells #[.int .i64 21] 3) = W at *
  refine (HB.out W _ 1 1 hs1 (sl_blk q1 rfl) rfl).mono ?_
  rintro e w2 ⟨A2, n2, c2, rfl, hO2, hb2⟩
  generalize resM segK b = N at *
  generalize errI segK b = er at *
  replace hbw := below_step hb2 hbw
  have qr := q0.below hb2 lq
  obtain ⟨kind, ix, sub, tg, la, cr, sz, size, code, data, sq, bl, em, sum⟩ := N
  simp only [msV] at hO2 HE ⊢
  have qr_c0 := qr.cell 0 rfl
  have qr_f0 := qr.frozen 0
  have qr_c1 := qr.cell 1 rfl
  have qr_f1 := qr.frozen 1
  have qr_c2 := qr.cell 2 rfl
  have qr_f2 := qr.frozen 2
  have qr_c3 := qr.cell 3 rfl
  have qr_f3 := qr.frozen 3
  have qr_c4 := qr.cell 4 rfl
  have qr_f4 := qr.frozen 4
  have qr_c5 := qr.cell 5 rfl
  have qr_f5 := qr.frozen 5
  have qr_c6 := qr.cell 6 rfl
  have qr_f6 := qr.frozen 6
  have qr_c7 := qr.cell 7 rfl
  have qr_f7 := qr.frozen 7
  have qr_c8 := qr.cell 8 rfl
  have qr_f8 := qr.frozen 8
  have qr_c9 := qr.cell 9 rfl
  have qr_f9 := qr.frozen 9
  have qr_c10 := qr.cell 10 rfl
  have qr_f10 := qr.frozen 10
  have qr_c11 := qr.cell 11 rfl
  have qr_f11 := qr.frozen 11
  have qr_c12 := qr.cell 12 rfl
  have qr_f12 := qr.frozen 12
  have qr_c13 := qr.cell 13 rfl
  have qr_f13 := qr.frozen 13
  clear q0 q1 hs1
  go_wp2_with fail
  refine bodyPost_ret (v := .tuple #[.agg #[.int .i64 kind, .int .i64 ix, .int .i64 sub, .bool tg, .bool la, .bool cr, .bool sz, .int .u32 (size : Nat), .int .u32 (code : Nat), .slice A2 n2 c2, .int .i64 sq, .int .i64 bl, .int .i64 em, .int .u16 (sum : Nat)], .int .i64 er]) (by simp [results, Try.results39, go_sem, qr_c0, qr_f0, qr_c1, qr_f1, qr_c2, qr_f2, qr_c3, qr_f3, qr_c4, qr_f4, qr_c5, qr_f5, qr_c6, qr_f6, qr_c7, qr_f7, qr_c8, qr_f8, qr_c9, qr_f9, qr_c10, qr_f10, qr_c11, qr_f11, qr_c12, qr_f12, qr_c13, qr_f13]) rfl (HE.out A2 n2 c2 _ ?_ ?_)
  · exact (own_row14 hO2 lq _ _ _ _ _ _ _ _ _ _ _ _ _ _).mono hsz
  · repeat' (first | with_reducible assumption | with_reducible exact Below.refl _ _ | with_reducible apply below_alloc | with_reducible apply below_drew1 | with_reducible apply below_drewN | (with_reducible apply below_step; with_reducible assumption) | (with_reducible apply below_sg2; (first | exact Nat.le_refl _ | (simp; done) | omega)))
end Go.Proofs.Ytcncbmlacphclaa
