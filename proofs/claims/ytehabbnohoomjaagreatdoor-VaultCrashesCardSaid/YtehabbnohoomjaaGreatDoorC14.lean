/- Package flash: do over a byte, Program. -/
import Derived.Test.YtehabbnohoomjaaGreatDoorC01
import Derived.Test.YtehabbnohoomjaaGreatDoorC13
namespace Go.Proofs.YtehabbnohoomjaaGreatDoor
section
set_option linter.unusedVariables false
set_option linter.unusedSimpArgs false
set_option linter.unnecessarySimpa false
open Go.RowKit
set_option maxRecDepth 20000
set_option maxHeartbeats 2000000

theorem and_byte (x y : UInt8) : bits BinOp.and IntKind.u8 (x.toNat : Int) (y.toNat : Int) = (((x &&& y).toNat : Nat) : Int) := by
  rw [u8_and_nat _ _ x.toNat_lt y.toNat_lt, UInt8.toNat_and]
theorem or_byte (x y : UInt8) : bits BinOp.or IntKind.u8 (x.toNat : Int) (y.toNat : Int) = (((x ||| y).toNat : Nat) : Int) := by
  rw [u8_or_nat _ _ x.toNat_lt y.toNat_lt, UInt8.toNat_or]
theorem fl_all (q : FP) (S : FS) (j : Nat) (x : UInt8) (w : World) (hD : FD w q S) (hj : j < S.b.length) :
    Calls Tryz.prog 195 #[.agg #[.pointer (some ⟨q.p, 0, none⟩), .int .u8 (x.toNat : Nat)], .int .i64 (j : Nat)] w fun e w' => e = .returned (.tuple #[]) ∧ FD w' q { S with b := S.b.set j (S.b.getD j 0 &&& x) } ∧ Only q.F w w' := by
  have HD := hide hD
  obtain ⟨⟨c0, -⟩, -⟩ := hD.c
  obtain ⟨cb, fb⟩ := hD.byte hj
  obtain ⟨y, hy⟩ : ∃ y, y = S.b.getD j 0 := ⟨_, rfl⟩
  rw [← hy] at cb ⊢
  obtain ⟨n, hn⟩ : ∃ n, n = S.b.length := ⟨_, rfl⟩
  rw [← hn] at c0 hj
  obtain ⟨i1, i2, i3⟩ := idx_at hj
  have hand := and_byte y x
  have zp := hD.blk.lt
  have zb := hD.gb_lt
  clear hD hn hy
  have q0 := blk_one w 265 #[.pointer (some ⟨q.p, 0, none⟩), .int .u8 (x.toNat : Nat)]
  have hb1 := below_alloc (Below.refl w.heap.size w) (.cells #[.pointer (some ⟨q.p, 0, none⟩), .int .u8 (x.toNat : Nat)] 265)
  have d0 := (hb1.cell (p := ⟨q.p, 0, none⟩) zp).trans c0
  have db := (hb1.cell (p := ⟨q.gb, j, none⟩) zb).trans cb
  have df := (hb1.frozen (p := ⟨q.gb, j, none⟩) zb).trans fb
  have HB1 := hide hb1
  obtain ⟨q0_c0, q0_c1⟩ := cel2 q0
  have q0_f := q0.frozen
  clear hb1 c0 cb fb q0
  go_enter Tryz.func195, Tryz.ntmps195
  go_wp2_with fail
  refine wp_region_T (fun w' => w'.cell? ⟨w.heap.size, 0, none⟩ = some (.pointer (some ⟨q.p, 0, none⟩)) ∧ w'.cell? ⟨w.heap.size, 1, none⟩ = some (.int .u8 (x.toNat : Nat)) ∧ w'.cell? ⟨q.p, 0, none⟩ = some (.slice (some ⟨q.gb, 0, none⟩) n q.cb) ∧ w'.cell? ⟨q.gb, j, none⟩ = some (.int .u8 (y.toNat : Nat))) [0, 1, 2, 3, 4, 5, 6, 7, 8, 9, 10, 11] (by kernel_rfl) ?hS1 (fun hHeld => ?rest1)
  case hS1 => ((try dsimp only); exact ⟨q0_c0, q0_c1, d0, db⟩)
  case' rest1 => skip
  refine tkT 0 ?_
  try simp only [PqL, Act.put]
  refine tkT 1 ?_
  try simp only [PqL, Act.put]
  refine tkT 2 ?_
  try simp only [PqL, Act.put]
  refine tkT 3 ?_
  try simp only [PqL, Act.put]
  refine tkT 4 ?_
  try simp only [PqL, Act.put]
  refine tkT 5 ?_
  try simp only [PqL, Act.put]
  refine tkT 6 ?_
  try simp only [PqL, Act.put]
  refine tkT 7 ?_
  try simp only [PqL, Act.put]
  refine tkT 8 ?_
  try simp only [PqL, Act.put]
  refine tkT 9 ?_
  try simp only [PqL, Act.put]
  refine tkT 10 ?_
  try simp only [PqL, Act.put]
  refine tkT 11 ?_
  try simp only [PqL, Act.put]
  refine wpAnyT_late (i := 12) (o := _) rfl (by kernel_rfl) (by kernel_rfl) (fun K hK => ?_)
  go_simp
  refine hK.out _ _ ?rest15
  case' rest15 => (clear hK K; try simp only [PqL, Act.put])
  refine wpAnyT_done (by kernel_rfl) ?_ _
  repeat (clear hHeld)
  go_wp2_with fail
  go_end0
  refine ⟨rfl, ?_, ?_⟩
  · have hs := HD.out.setB j (y &&& x)
    rw [UInt8.toNat_and] at hs
    exact hs.below (below_drew1 (below_alloc (Below.refl _ _) _))
  · exact (Only.set q.F (Only.refl _ _) (Or.inr (Or.inl rfl)) _).step (below_drew1 (below_alloc (Below.refl _ _) _))
theorem xor_all : ∀ n : Fin 256, 255 ^^^ n.val = 255 - n.val := by decide +kernel
theorem not_byte (m : Nat) (hm : m ≤ 4294967295) : bits BinOp.xor IntKind.u8 IntKind.u8.max (IntKind.u8.wrap (m : Int)) = (((~~~ (UInt8.ofNat m)).toNat : Nat) : Int) := by
  have hsz : UInt8.size = 256 := rfl
  have h1 : IntKind.u8.wrap (m : Int) = ((m % 256 : Nat) : Int) := by rw [IntKind.wrap_u8]; omega
  have h2 : IntKind.u8.max = ((255 : Nat) : Int) := rfl
  have h3 := xor_all ⟨m % 256, by omega⟩
  simp only [] at h3
  rw [h1, h2, u8_xor_nat _ _ (by omega) (by omega), h3, UInt8.toNat_not, UInt8.toNat_ofNat', hsz]
theorem fl_some (q : FP) (S : FS) (j : Nat) (x : UInt8) (w : World) (hD : FD w q S) (hj : j < S.b.length) :
    Calls Tryz.prog 196 #[.agg #[.pointer (some ⟨q.p, 0, none⟩), .int .u8 (x.toNat : Nat)], .int .i64 (j : Nat)] w fun e w' => e = .returned (.tuple #[]) ∧ FD w' q { S with b := S.b.set j (tornB (S.b.getD j 0) x S.mask) } ∧ Only q.F w w' := by
  have HD := hide hD
  obtain ⟨⟨c0, -, -, -, -, c5, -⟩, -⟩ := hD.c
  obtain ⟨cb, fb⟩ := hD.byte hj
  have hm : S.mask ≤ 4294967295 := by have := hD.fit.mask; unfold U32 at this; omega
  obtain ⟨m, hmm⟩ : ∃ m, m = S.mask := ⟨_, rfl⟩
  rw [← hmm] at c5 hm ⊢
  obtain ⟨y, hy⟩ : ∃ y, y = S.b.getD j 0 := ⟨_, rfl⟩
  rw [← hy] at cb ⊢
  obtain ⟨n, hn⟩ : ∃ n, n = S.b.length := ⟨_, rfl⟩
  rw [← hn] at c0 hj
  obtain ⟨i1, i2, i3⟩ := idx_at hj
  have hnot := not_byte m hm
  have hor := or_byte x (~~~ (UInt8.ofNat m))
  have hand := and_byte y (x ||| ~~~ (UInt8.ofNat m))
  have HNOT := hide hnot
  have HOR := hide hor
  have HAND := hide hand
  clear hnot hor hand
  have zp := hD.blk.lt
  have zb := hD.gb_lt
  have HMM := hide hmm
  clear hD hn hy hmm
  have q0 := blk_one w 265 #[.pointer (some ⟨q.p, 0, none⟩), .int .u8 (x.toNat : Nat)]
  have hb1 := below_alloc (Below.refl w.heap.size w) (.cells #[.pointer (some ⟨q.p, 0, none⟩), .int .u8 (x.toNat : Nat)] 265)
  have d0 := (hb1.cell (p := ⟨q.p, 0, none⟩) zp).trans c0
  have d5 := (hb1.cell (p := ⟨q.p, 5, none⟩) zp).trans c5
  have db := (hb1.cell (p := ⟨q.gb, j, none⟩) zb).trans cb
  have df := (hb1.frozen (p := ⟨q.gb, j, none⟩) zb).trans fb
  have HB1 := hide hb1
  obtain ⟨q0_c0, q0_c1⟩ := cel2 q0
  have q0_f := q0.frozen
  clear hb1 c0 cb fb q0 c5
  go_enter Tryz.func196, Tryz.ntmps196
  go_wp2_with fail
  refine wp_region_T (fun w' => w'.cell? ⟨w.heap.size, 0, none⟩ = some (.pointer (some ⟨q.p, 0, none⟩)) ∧ w'.cell? ⟨w.heap.size, 1, none⟩ = some (.int .u8 (x.toNat : Nat)) ∧ w'.cell? ⟨q.p, 0, none⟩ = some (.slice (some ⟨q.gb, 0, none⟩) n q.cb) ∧ w'.cell? ⟨q.p, 5, none⟩ = some (.int .u32 (m : Nat)) ∧ w'.cell? ⟨q.gb, j, none⟩ = some (.int .u8 (y.toNat : Nat))) [0, 1, 2, 3, 4, 5, 6, 7, 8, 9, 10, 11, 12, 13, 14, 15, 16, 17, 18, 19] (by kernel_rfl) ?hS17 (fun hHeld => ?rest17)
  case hS17 => ((try dsimp only); exact ⟨q0_c0, q0_c1, d0, d5, db⟩)
  case' rest17 => skip
  refine tkT 0 ?_
  try simp only [PqL, Act.put]
  refine tkT 1 ?_
  try simp only [PqL, Act.put]
  refine tkT 2 ?_
  try simp only [PqL, Act.put]
  refine tkT 3 ?_
  try simp only [PqL, Act.put]
  refine tkT 4 ?_
  try simp only [PqL, Act.put]
  refine tkT 5 ?_
  try simp only [PqL, Act.put]
  refine tkT 6 ?_
  try simp only [PqL, Act.put]
  refine tkT 7 ?_
  try simp only [PqL, Act.put]
  refine tkT 8 ?_
  try simp only [PqL, Act.put]
  refine tkT 9 ?_
  try simp only [PqL, Act.put]
  refine tkT 10 ?_
  try simp only [PqL, Act.put]
  refine tkT 11 ?_
  try simp only [PqL, Act.put]
  refine tkT 12 ?_
  try simp only [PqL, Act.put]
  refine tkT 13 ?_
  try simp only [PqL, Act.put]
  refine tkT 14 ?_
  try simp only [PqL, Act.put]
  refine tkT 15 ?_
  try simp only [PqL, Act.put]
  refine tkT 16 ?_
  try simp only [PqL, Act.put]
  refine tkT 17 ?_
  try simp only [PqL, Act.put]
  refine tkT 18 ?_
  try simp only [PqL, Act.put]
  refine tkT 19 ?_
  try simp only [PqL, Act.put]
  refine wpAnyT_late (i := 20) (o := _) rfl (by kernel_rfl) (by kernel_rfl) (fun K hK => ?_)
  go_simp
  refine hK.out _ _ ?rest39
  case' rest39 => (clear hK K; try simp only [PqL, Act.put])
  refine wpAnyT_done (by kernel_rfl) ?_ _
  repeat (clear hHeld)
  go_wp2_with fail
  go_end0
  refine ⟨rfl, ?_, ?_⟩
  · have hs := HD.out.setB j (tornB y x m)
    have hv : bits BinOp.and IntKind.u8 (y.toNat : Int) (bits BinOp.or IntKind.u8 (x.toNat : Int) (bits BinOp.xor IntKind.u8 IntKind.u8.max (IntKind.u8.wrap (m : Int)))) = (((tornB y x m).toNat : Nat) : Int) := by
      rw [HNOT.out, HOR.out, HAND.out]; rfl
    rw [hv]
    have hm2 := HMM.out
    subst hm2
    exact hs.below (below_drew1 (below_alloc (Below.refl _ _) _))
  · exact (Only.set q.F (Only.refl _ _) (Or.inr (Or.inl rfl)) _).step (below_drew1 (below_alloc (Below.refl _ _) _))
/-- a byte's operation -/
def doP (S : FS) (j : Nat) (x : UInt8) : FS × Int :=
  if S.ahead = 0 then ({ S with b := S.b.set j (tornB (S.b.getD j 0) x S.mask), ahead := -1, off := true }, 7)
  else ({ S with b := S.b.set j (S.b.getD j 0 &&& x), ahead := decA S.ahead, ops := S.ops + 1 }, 0)
theorem do_prog (q : FP) (S : FS) (j : Nat) (x : UInt8) (w : World) (hD : FD w q S) (hj : j < S.b.length) (hops : S.ops < 4611686018427387904) :
    Calls Tryz.prog 192 #[.pointer (some ⟨q.p, 0, none⟩), .int .i64 (j : Nat), .func (.func 195) #[.agg #[.pointer (some ⟨q.p, 0, none⟩), .int .u8 (x.toNat : Nat)]] #[], .func (.func 196) #[.agg #[.pointer (some ⟨q.p, 0, none⟩), .int .u8 (x.toNat : Nat)]] #[]] w (DoR q (doP S j x) w) := by
  have HD := hide hD
  have HI := hide hj
  obtain ⟨⟨c0, c1, c2, c3, c4, c5, c6⟩, hfz⟩ := hD.c
  have f4 := hfz 4
  have f6 := hfz 6
  have ha2 := hD.fit.ah2
  have ha1 := hD.fit.ah1
  obtain ⟨ah, hah⟩ : ∃ a, a = S.ahead := ⟨_, rfl⟩
  rw [← hah] at c4 ha1 ha2
  have HF := hide hD.fit
  clear hD hj hfz
  by_cases h0 : ah = 0
  · subst h0
    have HE : Hid (doP S j x = ({ S with b := S.b.set j (tornB (S.b.getD j 0) x S.mask), ahead := -1, off := true }, 7)) := hide (by unfold doP; rw [if_pos hah.symm])
    rw [HE.out]
    clear hah
    go_enter Tryz.func192, Tryz.ntmps192
    go_wp2_with fail
    refine (fl_some q S j x w HD.out HI.out).mono ?_
    rintro e w1 ⟨rfl, h1, h2⟩
    obtain ⟨⟨d0, d1, d2, d3, d4, d5, d6⟩, hfz⟩ := h1.c
    have g4 := hfz 4
    have g3 := hfz 3
    have HH := hide (And.intro h1 h2)
    clear h1 h2 hfz c0 c1 c2 c3 c4 c5 c6
    go_wp2_with fail
    go_ret
    refine ⟨rfl, ?_, ?_⟩
    · exact FD.reblk HH.out.1 (only2 _ _ _ _) (blk_setL (blk_setL HH.out.1.blk 4 _) 3 _) rfl rfl (fit_of HH.out.1.fit rfl rfl rfl rfl (.inr (.inr rfl)))
    · exact Only.set _ (Only.set _ HH.out.2 (.inl rfl) _) (.inl rfl) _
  · have HE : Hid (doP S j x = ({ S with b := S.b.set j (S.b.getD j 0 &&& x), ahead := decA ah, ops := S.ops + 1 }, 0)) := hide (by unfold doP; rw [if_neg (by rw [← hah]; exact h0), hah])
    rw [HE.out]
    have HA := hide hah
    clear hah
    by_cases hp : 0 < ah
    · have HDA := hide (show decA ah = ah - 1 by unfold decA; rw [if_pos hp])
      rw [HDA.out]
      go_enter Tryz.func192, Tryz.ntmps192
      go_wp2_with fail
      have h1 : FD ((w.setCell ⟨q.p, 4, none⟩ (.int .i64 (ah - 1))).setCell ⟨q.p, 6, none⟩ (.int .i64 ((S.ops : Int) + 1))) q { S with ahead := ah - 1, ops := S.ops + 1 } := FD.reblk HD.out (only2 _ _ _ _) (blk_setL (blk_setL HD.out.blk 4 _) 6 _) rfl rfl (fit_of HF.out rfl rfl rfl rfl (.inr (.inl (by rw [← HA.out, HDA.out]))))
      have HW : Hid (Only (fun g => g = q.p) w ((w.setCell ⟨q.p, 4, none⟩ (.int .i64 (ah - 1))).setCell ⟨q.p, 6, none⟩ (.int .i64 ((S.ops : Int) + 1)))) := hide (only2 _ _ _ _)
      have HC := hide (fl_all q _ j x _ h1 HI.out)
      clear h1 c0 c1 c2 c3 c4 c5 c6
      go_wp2_with fail
      refine HC.out.mono ?_
      rintro e w1 ⟨rfl, h1, h2⟩
      have HH := hide (And.intro h1 h2)
      clear h1 h2
      go_wp2_with fail
      go_ret
      exact ⟨rfl, HH.out.1, (only_F HW.out (fun g e => .inl e)).trans HH.out.2 (fun _ _ h => h)⟩
    · have HDA := hide (show decA ah = ah by unfold decA; rw [if_neg hp])
      rw [HDA.out]
      go_enter Tryz.func192, Tryz.ntmps192
      go_wp2_with fail
      have h1 : FD (w.setCell ⟨q.p, 6, none⟩ (.int .i64 ((S.ops : Int) + 1))) q { S with ahead := ah, ops := S.ops + 1 } := by
        have := HA.out
        subst this
        exact FD.reblk HD.out (only1 _ _) (blk_setL HD.out.blk 6 _) rfl rfl (fit_of HF.out rfl rfl rfl rfl (.inl rfl))
      have HW : Hid (Only (fun g => g = q.p) w (w.setCell ⟨q.p, 6, none⟩ (.int .i64 ((S.ops : Int) + 1)))) := hide (only1 _ _)
      have HC := hide (fl_all q _ j x _ h1 HI.out)
      clear h1 c0 c1 c2 c3 c4 c5 c6
      go_wp2_with fail
      refine HC.out.mono ?_
      rintro e w1 ⟨rfl, h1, h2⟩
      have HH := hide (And.intro h1 h2)
      clear h1 h2
      go_wp2_with fail
      go_ret
      exact ⟨rfl, HH.out.1, (only_F HW.out (fun g e => .inl e)).trans HH.out.2 (fun _ _ h => h)⟩
def roomE (S : FS) (k n : Int) : Int := if S.off = true then 7 else if k < 0 ∨ n < 0 ∨ (S.b.length : Int) < k ∨ (S.b.length : Int) - k < n then 9 else 0
theorem fl_room (q : FP) (S : FS) (k n : Int) (w : World) (hD : FD w q S) (hk : -4611686018427387904 ≤ k) (hk2 : k ≤ 4611686018427387904) :
    Calls Tryz.prog 147 #[.pointer (some ⟨q.p, 0, none⟩), .int .i64 k, .int .i64 n] w fun e w' => e = .returned (.int .i64 (roomE S k n)) ∧ w = w' := by
  obtain ⟨⟨c0, c1, c2, c3, c4, c5, c6⟩, -⟩ := hD.c
  have hl : S.b.length ≤ 8192 := by have := hD.fit.len; have := hD.fit.wl8; omega
  obtain ⟨N, hN⟩ : ∃ n, n = S.b.length := ⟨_, rfl⟩
  obtain ⟨off, ho⟩ : ∃ o, o = S.off := ⟨_, rfl⟩
  rw [← hN] at c0 hl
  rw [← ho] at c3
  have HE : Hid (roomE S k n = if off = true then 7 else if k < 0 ∨ n < 0 ∨ (N : Int) < k ∨ (N : Int) - k < n then 9 else 0) := hide (by unfold roomE; rw [hN, ho])
  rw [HE.out]
  clear hD hN ho c1 c2 c4 c5 c6
  cases off
  · by_cases h1 : k < 0
    · go_enter Tryz.func147, Tryz.ntmps147
      go_wp2_with fail
      go_ret
      exact ⟨ret_int (by simp [h1]), rfl⟩
    · by_cases h2 : n < 0
      · go_enter Tryz.func147, Tryz.ntmps147
        go_wp2_with fail
        go_ret
        exact ⟨ret_int (by simp [h2]), rfl⟩
      · by_cases h3 : (N : Int) < k
        · go_enter Tryz.func147, Tryz.ntmps147
          go_wp2_with fail
          go_ret
          exact ⟨ret_int (by simp [h3]), rfl⟩
        · by_cases h4 : (N : Int) - k < n
          · go_enter Tryz.func147, Tryz.ntmps147
            go_wp2_with fail
            go_ret
            exact ⟨ret_int (by simp [h4]), rfl⟩
          · go_enter Tryz.func147, Tryz.ntmps147
            go_wp2_with fail
            go_ret
            exact ⟨ret_int (by simp [h1, h2, h3, h4]), rfl⟩
  · go_enter Tryz.func147, Tryz.ntmps147
    go_wp2_with fail
    go_ret
    exact ⟨ret_int (by simp), rfl⟩
end
end Go.Proofs.YtehabbnohoomjaaGreatDoor
namespace Go.Proofs.YtehabbnohoomjaaGreatDoor
section
set_option linter.unusedVariables false
set_option linter.unusedSimpArgs false
set_option linter.unnecessarySimpa false
open Go.RowKit
set_option maxRecDepth 20000
set_option maxHeartbeats 4000000

theorem progF_do (S : FS) (k : Nat) (x : UInt8) (bs : List UInt8) : progF S k (x :: bs) = if S.ahead = 0 then doP S k x else progF (doP S k x).1 (k + 1) bs := by
  rw [progF]
  unfold doP
  split <;> rfl
theorem doP_len (S : FS) (k : Nat) (x : UInt8) : (doP S k x).1.b.length = S.b.length ∧ (doP S k x).1.ops ≤ S.ops + 1 := by
  unfold doP
  split <;> simp
theorem doP_er (S : FS) (k : Nat) (x : UInt8) : (S.ahead = 0 → (doP S k x).2 = 7) ∧ (S.ahead ≠ 0 → (doP S k x).2 = 0) := by
  unfold doP
  constructor
  · intro h; rw [if_pos h]
  · intro h; rw [if_neg h]
theorem roomE_ok {S : FS} {k n : Nat} (hoff : S.off = false) (h : k + n ≤ S.b.length) : roomE S k n = 0 := by
  unfold roomE
  rw [hoff, if_neg (by decide), if_neg (by omega)]
theorem fl_Program (q : FP) (S : FS) (k : Nat) (A : Option Addr) (n c : Nat) (l : List UInt8) (w : World) (hD : FD w q S) (hn : n = l.length) (hoff : S.off = false) (hfit : k + n ≤ S.b.length) (hsrc : ∀ W, Only q.F w W → Sl W A (l.map bv)) (hops : S.ops + n < 4611686018427387904) :
    Calls Tryz.prog 167 #[.pointer (some ⟨q.p, 0, none⟩), .int .i64 (k : Nat), .slice A n c] w (DoR q (progF S k l) w) := by
  have HD := hide hD
  have h8 := hD.fit.wl8
  have hL := hD.fit.len
  have hk8 : k + n ≤ 8192 := by omega
  have HFIT := hide hfit
  have HSRC := hide hsrc
  have HN := hide hn
  have HOPS := hide hops
  have HR := hide (fl_room q S k n w hD (by omega) (by omega))
  rw [roomE_ok hoff hfit] at HR
  obtain ⟨R, hR⟩ : ∃ R, R = progF S k l := ⟨_, rfl⟩
  have HRR := hide hR
  rw [← hR]
  clear hD h8 hL hfit hsrc hn hops hR hoff
  go_enter Tryz.func167, Tryz.ntmps167
  go_wp2_with fail
  refine HR.out.mono ?_
  rintro e w1 ⟨rfl, rfl⟩
  go_wp2_with fail
  go_loopw [8, 9, 10, 11, 22] (fun _ _ _ _ i wr => ∃ j S', j ≤ n ∧ i = .int .i64 (j : Nat) ∧ Hid (FD wr q S') ∧ Hid (Only q.F w wr) ∧ Hid (R = progF S' (k + j) (l.drop j) ∧ S'.ops ≤ S.ops + j ∧ S'.b.length = S.b.length)) (fun _ _ _ _ i _ => n - (intOf i).toNat)
  case atStart => exact ⟨0, S, by omega, rfl, HD, hide (Only.refl _ _), hide ⟨by rw [List.drop_zero]; exact HRR.out, Nat.le_refl _, rfl⟩⟩
  case round =>
    obtain ⟨j, S', hj, rfl, HDr, HOr, HP⟩ := hrel
    by_cases hlt : j < n
    · obtain ⟨x, hx⟩ : ∃ x, x = l[j]'(by rw [← HN.out]; exact hlt) := ⟨_, rfl⟩
      obtain ⟨b, off, hA, cx⟩ := (HSRC.out wr HOr.out).byte_ (j := j) (by rw [← HN.out]; exact hlt)
      rw [← hx] at cx
      subst hA
      have HX := hide (show l.drop j = x :: l.drop (j + 1) by rw [hx]; exact List.drop_eq_getElem_cons _)
      obtain ⟨i1, i2, i3⟩ := idx_at hlt
      have zb := lt_of_cell cx
      simp only [] at zb
      have q0 := blk_one wr 265 #[.pointer (some ⟨q.p, 0, none⟩), .int .u8 (x.toNat : Nat)]
      have hb1 := below_alloc (Below.refl wr.heap.size wr) (.cells #[.pointer (some ⟨q.p, 0, none⟩), .int .u8 (x.toNat : Nat)] 265)
      have HB1 := hide hb1
      have HC := hide (do_prog q S' (k + j) x _ (HDr.out.below hb1) (by rw [HP.out.2.2]; have := HFIT.out; omega) (by have := HP.out.2.1; have := HOPS.out; omega))
      obtain ⟨D, hD⟩ : ∃ D, D = doP S' (k + j) x := ⟨_, rfl⟩
      rw [← hD] at HC
      obtain ⟨D1, D2⟩ := D
      have HDD := hide hD
      clear hx hD hb1
      obtain ⟨q0_c0, q0_c1⟩ := cel2 q0
      have q0_f := q0.frozen
      clear q0
      by_cases h0 : S'.ahead = 0
      · have h7 : D2 = 7 := by have := (doP_er S' (k + j) x).1 h0; rw [← HDD.out] at this; exact this
        subst h7
        have HRE : Hid (R = (D1, 7)) := hide (by rw [HP.out.1, HX.out, progF_do, if_pos h0, ← HDD.out])
        clear h0
        go_wp2_with fail
        refine HC.out.mono ?_
        rintro e w2 ⟨rfl, h1, h2⟩
        have HH := hide (And.intro h1 h2)
        clear h1 h2
        go_wp2_with fail
        go_ret
        exact (⟨by rw [HRE.out], by rw [HRE.out]; exact HH.out.1, (HOr.out.step HB1.out).trans HH.out.2 (fun _ _ h => h)⟩ : DoR q R w _ _)
      · have h7 : D2 = 0 := by have := (doP_er S' (k + j) x).2 h0; rw [← HDD.out] at this; exact this
        subst h7
        have HRE : Hid (R = progF D1 (k + (j + 1)) (l.drop (j + 1))) := hide (by rw [HP.out.1, HX.out, progF_do, if_neg h0, ← HDD.out]; rfl)
        have HL1 : Hid (D1.ops ≤ S.ops + (j + 1) ∧ D1.b.length = S.b.length) := hide (by
          have h1 := doP_len S' (k + j) x
          rw [← HDD.out] at h1
          simp only [] at h1
          have := HP.out.2
          omega)
        clear h0
        go_wp2_with fail
        refine HC.out.mono ?_
        rintro e w2 ⟨rfl, h1, h2⟩
        have HH := hide (And.intro h1 h2)
        clear h1 h2
        go_wp2_with fail
        have HO2 := hide ((HOr.out.step HB1.out).trans HH.out.2 (fun _ _ h => h))
        have HD2 := hide HH.out.1
        go_roundw
        case rel => exact ⟨j + 1, D1, by omega, by go_num, HD2, HO2, hide ⟨HRE.out, HL1.out⟩⟩
        case measure => simp [intOf]; omega
    · have hjn : j = n := by omega
      have HRE : Hid (R = (S', 0)) := hide (by rw [HP.out.1, List.drop_eq_nil_of_le (by rw [hjn, HN.out]; exact Nat.le_refl _), progF])
      go_wp2_with fail
      go_ret
      exact (⟨by rw [HRE.out], by rw [HRE.out]; exact HDr.out, HOr.out⟩ : DoR q R w _ _)
theorem fl_Read (q : FP) (S : FS) (k n : Nat) (w : World) (hD : FD w q S) (hoff : S.off = false) (hfit : k + n ≤ S.b.length) :
    Calls Tryz.prog 120 #[.pointer (some ⟨q.p, 0, none⟩), .int .i64 (k : Nat), .int .i64 (n : Nat)] w fun e w' => ∃ A c, e = .returned (.tuple #[.slice A n c, .int .i64 0]) ∧ OwnB w' w.heap.size A n c ((S.b.drop k).take n) ∧ Below w.heap.size w w' := by
  have h8 := hD.fit.wl8
  have hL := hD.fit.len
  have hk8 : k + n ≤ 8192 := by omega
  have HR := hide (fl_room q S k n w hD (by omega) (by omega))
  rw [roomE_ok hoff hfit] at HR
  obtain ⟨⟨c0, -⟩, -⟩ := hD.c
  have hcb := hD.bs.le
  have hsl : Sl w (cutA (some ⟨q.gb, 0, none⟩) q.cb k 1) (((S.b.drop k).take n).map bv) := by
    have h1 := (hD.bs.sl.cut1 (k := k) (c := q.cb) (by rw [List.length_map]; exact hcb)).take n
    rw [← List.map_drop, ← List.map_take] at h1
    exact h1
  have hln : n = ((S.b.drop k).take n).length := by simp; omega
  obtain ⟨L, hLL⟩ : ∃ L, L = (S.b.drop k).take n := ⟨_, rfl⟩
  rw [← hLL] at hsl hln ⊢
  obtain ⟨N, hN⟩ : ∃ N, N = S.b.length := ⟨_, rfl⟩
  rw [← hN] at c0 hfit hcb
  have hcut := cut2_b (some ⟨q.gb, 0, none⟩) N q.cb k (k + n) (k : Nat) ((k : Int) + (n : Int)) .i64 .i64 rfl (by omega) (by omega) (by omega) w
  rw [show k + n - k = n by omega] at hcut
  have HS := hide hsl
  have HLN := hide hln
  clear hD h8 hL hoff hLL hN hsl hln
  go_enter Tryz.func120, Tryz.ntmps120
  go_wp2_with fail
  refine HR.out.mono ?_
  rintro e w1 ⟨rfl, rfl⟩
  go_wp2_with (at_builtin; refine app_b _ rfl _ _ rfl w.heap.size none 0 0 [] rfl (OwnB.nil _ _) (cutA (some ⟨q.gb, 0, none⟩) q.cb k 1) n (q.cb - k) L (by rfl) HLN.out HS.out (by omega) (Nat.le_refl _) n (by omega) ?_; intro A3 c3 w3 hown3 _ _ hb3)
  go_ret2
  exact ⟨_, _, rfl, by simpa using hown3, hb3⟩
end
end Go.Proofs.YtehabbnohoomjaaGreatDoor
