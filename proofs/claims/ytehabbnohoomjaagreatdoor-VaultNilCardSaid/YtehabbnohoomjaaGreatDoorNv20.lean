/- Package flash: Program, Read, and what it tells. -/
import Derived.Test.YtehabbnohoomjaaGreatDoorNv19
import Derived.Test.YtehabbnohoomjaaGreatDoorNv18
import Derived.Test.YtehabbnohoomjaaGreatDoorNv17
namespace Go.Proofs.YtehabbnohoomjaaGreatDoor
section
set_option linter.unusedVariables false
set_option linter.unusedSimpArgs false
set_option linter.unnecessarySimpa false
open Go.RowKit
set_option maxRecDepth 20000
set_option maxHeartbeats 4000000

theorem progF_do (S : FS) (k : Nat) (x : UInt8) (bs : List UInt8) : progF S k (x :: bs) = if S.ahead = 0 then doP S k x else progF (doP S k x).1 (k + 1) bs := by
  rw [progF]
  unfold doP
  split <;> rfl
theorem doP_len (S : FS) (k : Nat) (x : UInt8) : (doP S k x).1.b.length = S.b.length ∧ (doP S k x).1.ops ≤ S.ops + 1 := by
  unfold doP
  split <;> simp
theorem doP_er (S : FS) (k : Nat) (x : UInt8) : (S.ahead = 0 → (doP S k x).2 = 7) ∧ (S.ahead ≠ 0 → (doP S k x).2 = 0) := by
  unfold doP
  constructor
  · intro h; rw [if_pos h]
  · intro h; rw [if_neg h]
theorem roomE_ok {S : FS} {k n : Nat} (hoff : S.off = false) (h : k + n ≤ S.b.length) : roomE S k n = 0 := by
  unfold roomE
  rw [hoff, if_neg (by decide), if_neg (by omega)]
theorem fl_Program (q : FP) (S : FS) (k : Nat) (A : Option Addr) (n c : Nat) (l : List UInt8) (w : World) (hD : FD w q S) (hn : n = l.length) (hoff : S.off = false) (hfit : k + n ≤ S.b.length) (hsrc : ∀ W, Only q.F w W → Sl W A (l.map bv)) (hops : S.ops + n < 4611686018427387904) :
    Calls Tryz.prog 167 #[.pointer (some ⟨q.p, 0, none⟩), .int .i64 (k : Nat), .slice A n c] w (DoR q (progF S k l) w) := by
  have HD := hide hD
  have h8 := hD.fit.wl8
  have hL := hD.fit.len
  have hk8 : k + n ≤ 8192 := by omega
  have HFIT := hide hfit
  have HSRC := hide hsrc
  have HN := hide hn
  have HOPS := hide hops
  have HR := hide (fl_room q S k n w hD (by omega) (by omega))
  rw [roomE_ok hoff hfit] at HR
  obtain ⟨R, hR⟩ : ∃ R, R = progF S k l := ⟨_, rfl⟩
  have HRR := hide hR
  rw [← hR]
  clear hD h8 hL hfit hsrc hn hops hR hoff
  go_enter Tryz.func167, Tryz.ntmps167
  go_wp2_with fail
  refine HR.out.mono ?_
  rintro e w1 ⟨rfl, rfl⟩
  go_wp2_with fail
  go_loopw [8, 9, 10, 11, 22] (fun _ _ _ _ i wr => ∃ j S', j ≤ n ∧ i = .int .i64 (j : Nat) ∧ Hid (FD wr q S') ∧ Hid (Only q.F w wr) ∧ Hid (R = progF S' (k + j) (l.drop j) ∧ S'.ops ≤ S.ops + j ∧ S'.b.length = S.b.length)) (fun _ _ _ _ i _ => n - (intOf i).toNat)
  case atStart => exact ⟨0, S, by omega, rfl, HD, hide (Only.refl _ _), hide ⟨by rw [List.drop_zero]; exact HRR.out, Nat.le_refl _, rfl⟩⟩
  case round =>
    obtain ⟨j, S', hj, rfl, HDr, HOr, HP⟩ := hrel
    by_cases hlt : j < n
    · obtain ⟨x, hx⟩ : ∃ x, x = l[j]'(by rw [← HN.out]; exact hlt) := ⟨_, rfl⟩
      obtain ⟨b, off, hA, cx⟩ := (HSRC.out wr HOr.out).byte_ (j := j) (by rw [← HN.out]; exact hlt)
      rw [← hx] at cx
      subst hA
      have HX := hide (show l.drop j = x :: l.drop (j + 1) by rw [hx]; exact List.drop_eq_getElem_cons _)
      obtain ⟨i1, i2, i3⟩ := idx_at hlt
      have zb := lt_of_cell cx
      simp only [] at zb
      have q0 := blk_one wr 265 #[.pointer (some ⟨q.p, 0, none⟩), .int .u8 (x.toNat : Nat)]
      have hb1 := below_alloc (Below.refl wr.heap.size wr) (.cells #[.pointer (some ⟨q.p, 0, none⟩), .int .u8 (x.toNat : Nat)] 265)
      have HB1 := hide hb1
      have HC := hide (do_prog q S' (k + j) x _ (HDr.out.below hb1) (by rw [HP.out.2.2]; have := HFIT.out; omega) (by have := HP.out.2.1; have := HOPS.out; omega))
      obtain ⟨D, hD⟩ : ∃ D, D = doP S' (k + j) x := ⟨_, rfl⟩
      rw [← hD] at HC
      obtain ⟨D1, D2⟩ := D
      have HDD := hide hD
      clear hx hD hb1
      obtain ⟨q0_c0, q0_c1⟩ := cel2 q0
      have q0_f := q0.frozen
      clear q0
      by_cases h0 : S'.ahead = 0
      · have h7 : D2 = 7 := by have := (doP_er S' (k + j) x).1 h0; rw [← HDD.out] at this; exact this
        subst h7
        have HRE : Hid (R = (D1, 7)) := hide (by rw [HP.out.1, HX.out, progF_do, if_pos h0, ← HDD.out])
        clear h0
        go_wp2_with fail
        refine HC.out.mono ?_
        rintro e w2 ⟨rfl, h1, h2⟩
        have HH := hide (And.intro h1 h2)
        clear h1 h2
        go_wp2_with fail
        go_ret
        exact (⟨by rw [HRE.out], by rw [HRE.out]; exact HH.out.1, (HOr.out.step HB1.out).trans HH.out.2 (fun _ _ h => h)⟩ : DoR q R w _ _)
      · have h7 : D2 = 0 := by have := (doP_er S' (k + j) x).2 h0; rw [← HDD.out] at this; exact this
        subst h7
        have HRE : Hid (R = progF D1 (k + (j + 1)) (l.drop (j + 1))) := hide (by rw [HP.out.1, HX.out, progF_do, if_neg h0, ← HDD.out]; rfl)
        have HL1 : Hid (D1.ops ≤ S.ops + (j + 1) ∧ D1.b.length = S.b.length) := hide (by
          have h1 := doP_len S' (k + j) x
          rw [← HDD.out] at h1
          simp only [] at h1
          have := HP.out.2
          omega)
        clear h0
        go_wp2_with fail
        refine HC.out.mono ?_
        rintro e w2 ⟨rfl, h1, h2⟩
        have HH := hide (And.intro h1 h2)
        clear h1 h2
        go_wp2_with fail
        have HO2 := hide ((HOr.out.step HB1.out).trans HH.out.2 (fun _ _ h => h))
        have HD2 := hide HH.out.1
        go_roundw
        case rel => exact ⟨j + 1, D1, by omega, by go_num, HD2, HO2, hide ⟨HRE.out, HL1.out⟩⟩
        case measure => simp [intOf]; omega
    · have hjn : j = n := by omega
      have HRE : Hid (R = (S', 0)) := hide (by rw [HP.out.1, List.drop_eq_nil_of_le (by rw [hjn, HN.out]; exact Nat.le_refl _), progF])
      go_wp2_with fail
      go_ret
      exact (⟨by rw [HRE.out], by rw [HRE.out]; exact HDr.out, HOr.out⟩ : DoR q R w _ _)
theorem fl_Read (q : FP) (S : FS) (k n : Nat) (w : World) (hD : FD w q S) (hoff : S.off = false) (hfit : k + n ≤ S.b.length) :
    Calls Tryz.prog 120 #[.pointer (some ⟨q.p, 0, none⟩), .int .i64 (k : Nat), .int .i64 (n : Nat)] w fun e w' => ∃ A c, e = .returned (.tuple #[.slice A n c, .int .i64 0]) ∧ OwnB w' w.heap.size A n c ((S.b.drop k).take n) ∧ Below w.heap.size w w' := by
  have h8 := hD.fit.wl8
  have hL := hD.fit.len
  have hk8 : k + n ≤ 8192 := by omega
  have HR := hide (fl_room q S k n w hD (by omega) (by omega))
  rw [roomE_ok hoff hfit] at HR
  obtain ⟨⟨c0, -⟩, -⟩ := hD.c
  have hcb := hD.bs.le
  have hsl : Sl w (cutA (some ⟨q.gb, 0, none⟩) q.cb k 1) (((S.b.drop k).take n).map bv) := by
    have h1 := (hD.bs.sl.cut1 (k := k) (c := q.cb) (by rw [List.length_map]; exact hcb)).take n
    rw [← List.map_drop, ← List.map_take] at h1
    exact h1
  have hln : n = ((S.b.drop k).take n).length := by simp; omega
  obtain ⟨L, hLL⟩ : ∃ L, L = (S.b.drop k).take n := ⟨_, rfl⟩
  rw [← hLL] at hsl hln ⊢
  obtain ⟨N, hN⟩ : ∃ N, N = S.b.length := ⟨_, rfl⟩
  rw [← hN] at c0 hfit hcb
  have hcut := cut2_b (some ⟨q.gb, 0, none⟩) N q.cb k (k + n) (k : Nat) ((k : Int) + (n : Int)) .i64 .i64 rfl (by omega) (by omega) (by omega) w
  rw [show k + n - k = n by omega] at hcut
  have HS := hide hsl
  have HLN := hide hln
  clear hD h8 hL hoff hLL hN hsl hln
  go_enter Tryz.func120, Tryz.ntmps120
  go_wp2_with fail
  refine HR.out.mono ?_
  rintro e w1 ⟨rfl, rfl⟩
  go_wp2_with (at_builtin; refine app_b _ rfl _ _ rfl w.heap.size none 0 0 [] rfl (OwnB.nil _ _) (cutA (some ⟨q.gb, 0, none⟩) q.cb k 1) n (q.cb - k) L (by rfl) HLN.out HS.out (by omega) (Nat.le_refl _) n (by omega) ?_; intro A3 c3 w3 hown3 _ _ hb3)
  go_ret2
  exact ⟨_, _, rfl, by simpa using hown3, hb3⟩
end
end Go.Proofs.YtehabbnohoomjaaGreatDoor
namespace Go.Proofs.YtehabbnohoomjaaGreatDoor
section
set_option linter.unusedVariables false
set_option linter.unusedSimpArgs false
set_option linter.unnecessarySimpa false
open Go.RowKit
set_option maxRecDepth 20000
set_option maxHeartbeats 4000000
section
variable (q : FP) (S : FS) (w : World)
theorem fl_there (i : Nat) (hD : FD w q S) : Calls Tryz.prog 220 #[.pointer (some ⟨q.p, 0, none⟩), .int .i64 (i : Nat)] w fun e w' => e = .returned (.bool (decide (i < S.wear.length))) ∧ w = w' := by
  obtain ⟨⟨c0, c1, c2, c3, c4, c5, c6⟩, -⟩ := hD.c
  obtain ⟨N, hN⟩ : ∃ n, n = S.wear.length := ⟨_, rfl⟩
  have h8 := hD.fit.wl8
  rw [← hN] at c1 h8 ⊢
  clear hD hN
  by_cases h : i < N
  · have h' : (i : Int) < (N : Int) := by omega
    go_enter Tryz.func220, Tryz.ntmps220
    go_wp2_with fail
    go_ret
    exact ⟨ret_bool (by simp [h]), rfl⟩
  · have h' : ¬ (i : Int) < (N : Int) := by omega
    go_enter Tryz.func220, Tryz.ntmps220
    go_wp2_with fail
    go_ret
    exact ⟨ret_bool (by simp [h]), rfl⟩
theorem fl_Worn (i : Nat) (hD : FD w q S) (hi : i < S.wear.length) : Calls Tryz.prog 210 #[.pointer (some ⟨q.p, 0, none⟩), .int .i64 (i : Nat)] w fun e w' => e = .returned (.int .i64 ((S.wear.getD i 0 : Nat) : Int)) ∧ w = w' := by
  have HT := hide (fl_there q S w i hD)
  rw [show decide (i < S.wear.length) = true by simp [hi]] at HT
  obtain ⟨⟨c0, c1, c2, c3, c4, c5, c6⟩, -⟩ := hD.c
  obtain ⟨cw, -⟩ := hD.wcell hi
  obtain ⟨N, hN⟩ : ∃ n, n = S.wear.length := ⟨_, rfl⟩
  obtain ⟨x, hx⟩ : ∃ x, x = S.wear.getD i 0 := ⟨_, rfl⟩
  rw [← hN] at c1 hi
  rw [← hx] at cw ⊢
  have i2 : (i : Int) < (N : Int) := by omega
  clear hD hN hx
  go_enter Tryz.func210, Tryz.ntmps210
  go_wp2_with fail
  refine HT.out.mono ?_
  rintro e w1 ⟨rfl, rfl⟩
  go_wp2_with fail
  go_ret
  exact ⟨rfl, rfl⟩
theorem fl_Left (i : Nat) (hD : FD w q S) (hi : i < S.wear.length) : Calls Tryz.prog 211 #[.pointer (some ⟨q.p, 0, none⟩), .int .i64 (i : Nat)] w fun e w' => e = .returned (.int .i64 (S.most - ((S.wear.getD i 0 : Nat) : Int))) ∧ Below w.heap.size w w' := by
  have HT := hide (fl_there q S w i hD)
  rw [show decide (i < S.wear.length) = true by simp [hi]] at HT
  obtain ⟨⟨c0, c1, c2, c3, c4, c5, c6⟩, -⟩ := hD.c
  obtain ⟨cw, -⟩ := hD.wcell hi
  obtain ⟨N, hN⟩ : ∃ n, n = S.wear.length := ⟨_, rfl⟩
  have hle : ((S.wear.getD i 0 : Nat) : Int) ≤ S.most := hD.fit.w _ (by rw [List.getD_eq_getElem?_getD, List.getElem?_eq_getElem hi]; exact List.getElem_mem _)
  obtain ⟨x, hx⟩ : ∃ x, x = S.wear.getD i 0 := ⟨_, rfl⟩
  obtain ⟨M, hM⟩ : ∃ x, x = S.most := ⟨_, rfl⟩
  have m2 := hD.fit.m2
  rw [← hN] at c1 hi
  rw [← hM] at c2 hle m2 ⊢
  rw [← hx] at cw hle ⊢
  have i2 : (i : Int) < (N : Int) := by omega
  clear hD hN hx hM
  go_enter Tryz.func211, Tryz.ntmps211
  go_wp2_with fail
  refine HT.out.mono ?_
  rintro e w1 ⟨rfl, rfl⟩
  go_wp2_with fail
  go_quiet (fail)
  go_wp2_with fail
  go_ret
  exact ⟨rfl, below_drewN (Below.refl _ _) _⟩
theorem fl_Sectors (hD : FD w q S) : Calls Tryz.prog 79 #[.pointer (some ⟨q.p, 0, none⟩)] w fun e w' => e = .returned (.int .i64 ((S.wear.length : Nat) : Int)) ∧ w = w' := by
  obtain ⟨⟨c0, c1, c2, c3, c4, c5, c6⟩, -⟩ := hD.c
  clear hD
  go_enter Tryz.func79, Tryz.ntmps79
  go_wp2_with fail
  go_ret
  exact ⟨rfl, rfl⟩
theorem fl_On (hD : FD w q S) : Calls Tryz.prog 78 #[.pointer (some ⟨q.p, 0, none⟩)] w fun e w' => e = .returned (.bool (!S.off)) ∧ w = w' := by
  obtain ⟨⟨c0, c1, c2, c3, c4, c5, c6⟩, -⟩ := hD.c
  obtain ⟨off, ho⟩ : ∃ x, x = S.off := ⟨_, rfl⟩
  rw [← ho] at c3 ⊢
  clear hD ho
  go_enter Tryz.func78, Tryz.ntmps78
  go_wp2_with fail
  go_ret
  exact ⟨rfl, rfl⟩
end
end
end Go.Proofs.YtehabbnohoomjaaGreatDoor
namespace Go.Proofs.YtehabbnohoomjaaGreatDoor
section
set_option linter.unusedVariables false
set_option linter.unusedSimpArgs false
set_option linter.unnecessarySimpa false
open Go.RowKit
set_option maxRecDepth 20000
set_option maxHeartbeats 4000000

def lkF (x : LK) (d : Option Addr × Nat) : List Value := [.int .i64 x.k, .int .u32 (x.m : Nat), .slice d.1 x.d.length d.2, .int .i64 (x.cnt : Nat), .int .i64 (x.en : Nat), .bool x.cl]
theorem lkF_len (x : LK) (d : Option Addr × Nat) : (lkF x d).length = 6 := rfl
theorem lkF_one (x : LK) (d : Option Addr × Nat) : ∀ u ∈ lkF x d, u.oneCell' = true := by
  intro u hu
  simp only [lkF, List.mem_cons, List.not_mem_nil, or_false] at hu
  rcases hu with rfl | rfl | rfl | rfl | rfl | rfl <;> rfl
theorem infoLk : (Tryz.prog.info? 131).map (fun i => (i.zero, i.size, i.bytes)) = some (some (.agg #[.int .i64 0, .int .u32 0, .slice none 0 0, .int .i64 0, .int .i64 0, .bool false]), 6, 64) := by kernel_rfl
/-- a look whose numbers are small -/
structure FitK (x : LK) : Prop where
  m : U32 x.m
  d : x.d.length ≤ 2000
  cnt : 13 * x.cnt ≤ x.en
  en : x.en ≤ 2000
abbrev OwnLk (w : World) (F : Nat → Prop) (A : Option Addr) (n c : Nat) (L : List LK) (ds : List (Option Addr × Nat)) : Prop := OwnF lkF 6 131 LK.d w F A n c L ds
def joC (pf : Nat) (A : Option Addr) (n c : Nat) (J : JS) : List Value := [.slice A n c, .int .i64 (J.now : Nat), .bool J.has, .pointer (some ⟨pf, 0, none⟩), .bool J.dead]
/-- a journal at block p, over the flash at pf, in blocks of F -/
structure JD (w : World) (F : Nat → Prop) (p pf : Nat) (A : Option Addr) (n c : Nat) (J : JS) (ds : List (Option Addr × Nat)) : Prop where
  blk : Blk w p 129 (joC pf A n c J).toArray
  inF : F p
  lks : OwnLk w F A n c J.looks ds
  fit : ∀ x ∈ J.looks, FitK x
  n8 : n ≤ 8
  now : J.now ≤ 8
  at_ : J.has = true → J.now < n
section
variable {w w' : World} {F G : Nat → Prop} {p pf n c : Nat} {A : Option Addr} {J : JS} {ds : List (Option Addr × Nat)}
theorem JD.keep (h : JD w F p pf A n c J ds) (hk : ∀ g, F g → g < w.heap.size → w'.heap[g]? = w.heap[g]?) : JD w' F p pf A n c J ds :=
  ⟨(hk p h.inF h.blk.lt).trans h.blk, h.inF, h.lks.keep hk, h.fit, h.n8, h.now, h.at_⟩
theorem JD.below (h : JD w F p pf A n c J ds) (hb : Below w.heap.size w w') : JD w' F p pf A n c J ds := h.keep fun g _ hlt => hb.block g hlt
theorem JD.mono (h : JD w F p pf A n c J ds) (hG : ∀ g, g < w.heap.size → F g → G g) : JD w G p pf A n c J ds :=
  ⟨h.blk, hG p h.blk.lt h.inF, h.lks.mono hG, h.fit, h.n8, h.now, h.at_⟩
theorem JD.only {H : Nat → Prop} (h : JD w F p pf A n c J ds) (ho : Only H w w') (hH : ∀ g, F g → ¬ H g) : JD w' F p pf A n c J ds := h.keep fun g hg hlt => ho.block g hlt (hH g hg)
/-- the struct is stored anew, the looks stay -/
theorem JD.reblk {J' : JS} (h : JD w F p pf A n c J ds) (ho : Only (fun g => g = p) w w') (hB : Blk w' p 129 (joC pf A n c J').toArray) (h1 : J'.looks = J.looks) (h2 : J'.now ≤ 8) (h3 : J'.has = true → J'.now < n) : JD w' F p pf A n c J' ds := by
  have hk : ∀ g, g ≠ p → g < w.heap.size → w'.heap[g]? = w.heap[g]? := fun g hg hlt => ho.block g hlt hg
  have hA : ∀ g, A = some ⟨g, 0, none⟩ → g ≠ p := fun g hg e => blk_own_ne h.blk h.lks.own (by decide) (by rw [hg, ← e]; rfl)
  have hd : ∀ {m c' : Nat} {A' : Option Addr} {l : List UInt8}, OwnB w 0 A' m c' l → OwnB w' 0 A' m c' l := fun hO => ⟨hO.hn, hO.own.keep (fun g _ hlt hA' => hk g (fun e => blk_own_ne h.blk hO.own (by decide) (by rw [hA', ← e]; rfl)) hlt)⟩
  refine ⟨hB, h.inF, ?_, by rw [h1]; exact h.fit, h.n8, h2, h3⟩
  rw [h1]
  exact ⟨h.lks.hn, h.lks.hd, h.lks.own.keep (fun g _ hlt hA' => hk g (hA g hA') hlt), h.lks.inF, fun j v d e1 e2 => ⟨hd (h.lks.data j v d e1 e2).1, (h.lks.data j v d e1 e2).2⟩⟩
/-- look k's cells -/
theorem JD.look (h : JD w F p pf A n c J ds) {k : Nat} {x : LK} (hx : J.looks[k]? = some x) : ∃ g d, A = some ⟨g, 0, none⟩ ∧ g < w.heap.size ∧ ds[k]? = some d ∧ OwnB w 0 d.1 x.d.length d.2 x.d ∧ FitK x ∧ k < n ∧
    (w.cell? ⟨g, k * 6, none⟩ = some (.int .i64 x.k) ∧ w.cell? ⟨g, k * 6 + 1, none⟩ = some (.int .u32 (x.m : Nat)) ∧ w.cell? ⟨g, k * 6 + 2, none⟩ = some (.slice d.1 x.d.length d.2) ∧
    w.cell? ⟨g, k * 6 + 3, none⟩ = some (.int .i64 (x.cnt : Nat)) ∧ w.cell? ⟨g, k * 6 + 4, none⟩ = some (.int .i64 (x.en : Nat)) ∧ w.cell? ⟨g, k * 6 + 5, none⟩ = some (.bool x.cl)) ∧ F g ∧ FIn F d.1 := by
  obtain ⟨d, hd, hO, hFd⟩ := h.lks.elem hx
  obtain ⟨g, hA, hlt, hc⟩ := h.lks.cells lkF_len hx hd (by omega)
  exact ⟨g, d, hA, hlt, hd, hO, h.fit x (List.mem_of_getElem? hx), by rw [h.lks.hn]; exact (List.getElem?_eq_some_iff.1 hx).1, ⟨hc 0 _ rfl, hc 1 _ rfl, hc 2 _ rfl, hc 3 _ rfl, hc 4 _ rfl, hc 5 _ rfl⟩, h.lks.inF g hA, hFd⟩
/-- the looks as sector's functions read them -/
def kvs : List LK → List (Option Addr × Nat) → List KV
  | x :: L, d :: ds => ⟨x.k, x.m, d.1, x.d.length, d.2, x.cnt, x.en, x.cl⟩ :: kvs L ds
  | _, _ => []
theorem kvs_len : ∀ (L : List LK) (ds : List (Option Addr × Nat)), ds.length = L.length → (kvs L ds).length = L.length := by
  intro L
  induction L with
  | nil => intro ds h; cases ds <;> rfl
  | cons x L ih =>
    intro ds h
    cases ds with
    | nil => simp at h
    | cons d ds => simp only [kvs, List.length_cons]; rw [ih ds (by simpa using h)]
theorem kvs_at : ∀ (L : List LK) (ds : List (Option Addr × Nat)) (j : Nat) (v : KV), (kvs L ds)[j]? = some v → ∃ x d, L[j]? = some x ∧ ds[j]? = some d ∧ v = ⟨x.k, x.m, d.1, x.d.length, d.2, x.cnt, x.en, x.cl⟩ := by
  intro L
  induction L with
  | nil => intro ds j v h; cases ds <;> simp [kvs] at h
  | cons x L ih =>
    intro ds j v h
    cases ds with
    | nil => simp [kvs] at h
    | cons d ds =>
      cases j with
      | zero => simp [kvs] at h; exact ⟨x, d, rfl, rfl, h.symm⟩
      | succ j => simpa [kvs] using ih ds j v (by simpa [kvs] using h)
theorem OwnF.slk (h : OwnLk w F A n c J.looks ds) : SlK w A (kvs J.looks ds) := by
  intro j v hv
  obtain ⟨x, d, hx, hd, rfl⟩ := kvs_at _ _ _ _ hv
  obtain ⟨g, hA, hlt, hc⟩ := h.cells lkF_len hx hd (by omega)
  exact ⟨g, 0, hA, by rw [Nat.zero_add]; exact hc 0 _ rfl, by rw [Nat.zero_add]; exact hc 1 _ rfl, by rw [Nat.zero_add]; exact hc 2 _ rfl, by rw [Nat.zero_add]; exact hc 3 _ rfl, by rw [Nat.zero_add]; exact hc 4 _ rfl, by rw [Nat.zero_add]; exact hc 5 _ rfl⟩
end
/-! newest and next hang on counts, numbers and cleanness alone -/
def likeK (K K' : List KV) : Prop := ∀ j, (K.getD j default).cnt = (K'.getD j default).cnt ∧ (K.getD j default).m = (K'.getD j default).m ∧ (K.getD j default).cl = (K'.getD j default).cl
theorem newest_like {K K' : List KV} (h : likeK K K') (n : Nat) : newestS K n = newestS K' n := by
  induction n with
  | zero => rfl
  | succ n ih => unfold newestS; rw [ih, (h n).1, (h n).2.1, (h _).2.1]
theorem next_like {K K' : List KV} (h : likeK K K') (wear left : List Int) (nw : Nat × Bool) (n : Nat) : nextS K wear left nw n = nextS K' wear left nw n := by
  induction n with
  | zero => rfl
  | succ n ih =>
    unfold nextS
    rw [ih]
    have : skipB K left nw n = skipB K' left nw n := by unfold skipB; rw [(h n).1, (h n).2.2]
    rw [this]
theorem kvs_like : ∀ (L : List LK) (ds : List (Option Addr × Nat)), ds.length = L.length → likeK (kvs L ds) (L.map kvO) := by
  intro L
  induction L with
  | nil => intro ds h j; cases ds <;> simp [kvs]
  | cons x L ih =>
    intro ds h j
    cases ds with
    | nil => simp at h
    | cons d ds =>
      cases j with
      | zero => exact ⟨rfl, rfl, rfl⟩
      | succ j =>
        have := ih ds (by simpa using h) j
        simpa [kvs] using this
theorem newest_kvs (L : List LK) (ds : List (Option Addr × Nat)) (h : ds.length = L.length) : newestS (kvs L ds) L.length = newL L := newest_like (kvs_like L ds h) _
theorem next_kvs (L : List LK) (ds : List (Option Addr × Nat)) (wear : List Nat) (most : Int) (h : ds.length = L.length) : nextS (kvs L ds) (wear.map fun x => ((x : Nat) : Int)) (wear.map fun x => most - ((x : Nat) : Int)) (newestS (kvs L ds) L.length) L.length = nextL L wear most := by
  rw [newest_kvs L ds h, next_like (kvs_like L ds h)]
  rfl
theorem look_fit (l : List UInt8) (hl : l.length ≤ 1024) : FitK (lookL l) := by
  have h : ∀ (f : Nat) (x : LK), 13 * x.cnt ≤ x.en → x.d.length ≤ x.en → (13 * (lookF l f x).cnt ≤ (lookF l f x).en ∧ (lookF l f x).d.length ≤ (lookF l f x).en) := by
    intro f
    induction f with
    | zero => intro x h1 h2; exact ⟨h1, h2⟩
    | succ f ih =>
      intro x h1 h2
      rw [lookF]
      split
      · exact ⟨h1, h2⟩
      · exact ih _ (by simp only []; omega) (by simp only []; omega)
  obtain ⟨h1, h2⟩ := h l.length lookZ (Nat.le_refl _) (Nat.le_refl _)
  have h3 := lookE_len l
  have e1 : (lookL l).cnt = (lookF l l.length lookZ).cnt := rfl
  have e2 : (lookL l).en = (lookE l).en := rfl
  have e3 : (lookL l).d = (lookF l l.length lookZ).d := rfl
  have e4 : (lookE l).en = (lookF l l.length lookZ).en := rfl
  exact ⟨look_u32, by rw [e3]; omega, by rw [e1, e2, e4]; exact h1, by rw [e2]; omega⟩
section
variable {F : Nat → Prop} {p pf n c : Nat} {A : Option Addr} {J : JS} {ds : List (Option Addr × Nat)}
theorem jo_off (e : Int) (w : World) (hD : JD w F p pf A n c J ds) : Calls Tryz.prog 162 #[.pointer (some ⟨p, 0, none⟩), .int .i64 e] w fun e' w' => e' = .returned (.int .i64 e) ∧ JD w' F p pf A n c ⟨J.looks, J.now, J.has, (J.dead || decide (e = 7))⟩ ds ∧ Only (fun g => g = p) w w' := by
  have f4 := hD.blk.frozen 4
  have c4 := hD.blk.cell 4 (u := .bool J.dead) rfl
  have HD := hide hD
  clear hD
  by_cases h7 : e = 7
  · subst h7
    go_enter Tryz.func162, Tryz.ntmps162
    go_wp2_with fail
    go_ret
    refine ⟨rfl, ?_, only1 _ _⟩
    have h1 := blk_setL HD.out.blk 4 (.bool true)
    have e1 : (joC pf A n c J).set 4 (.bool true) = joC pf A n c ⟨J.looks, J.now, J.has, (J.dead || decide ((7 : Int) = 7))⟩ := by simp [joC]
    rw [e1] at h1
    exact HD.out.reblk (only1 _ _) h1 rfl HD.out.now HD.out.at_
  · go_enter Tryz.func162, Tryz.ntmps162
    go_wp2_with fail
    go_ret
    exact ⟨rfl, by rw [decide_eq_false h7, Bool.or_false]; exact HD.out, Only.refl _ _⟩
end
end
end Go.Proofs.YtehabbnohoomjaaGreatDoor
