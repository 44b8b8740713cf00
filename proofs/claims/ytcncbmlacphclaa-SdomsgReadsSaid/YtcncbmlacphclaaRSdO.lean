/- The reference of sdomsg: read (printed by wip/tools/gen_rread.py). -/
import Derived.Test.YtcncbmlacphclaaRSdGa
import Derived.Test.YtcncbmlacphclaaRSdGb
import Derived.Test.YtcncbmlacphclaaRSdGc
import Derived.Test.YtcncbmlacphclaaRSdGd
import Derived.Test.YtcncbmlacphclaaRSdGe
import Derived.Test.YtcncbmlacphclaaRSdGf
import Derived.RegionTactic
import Derived.Deep.RegionHeld3
import Derived.Deep.DeepCutAuto
import Derived.Deep.CutBlock
import Derived.Deep.Light
import Derived.Test.YtcncbmlacphclaaRSdF
import Derived.Test.YtcncbmlacphclaaSdR
import Derived.Deep.QuietTactic
import Derived.BigQuiet
namespace Go.Proofs.Ytcncbmlacphclaa
set_option linter.unusedVariables false
set_option linter.unusedSimpArgs false
set_option linter.unnecessarySimpa false
section
open Go.RowKit
set_option maxRecDepth 100000
set_option maxHeartbeats 4000000

theorem rsd_read (k : Int) (A : Option Addr) (n c : Nat) (b : List UInt8) (w : World) (hn : n = b.length) (h8 : b.length = 8) (hc : n ≤ c) (hs : Sl w A (b.map bv)) (k1 : 1 ≤ k) (k2 : k ≤ 21) :
    Calls Try.prog 90 #[.int .i64 k, .slice A n c] w (GuessR k b w) := by
  rcases (show (k = 1 ∨ k = 4 ∨ k = 5 ∨ k = 7 ∨ k = 9 ∨ k = 10 ∨ k = 11 ∨ k = 12 ∨ k = 13 ∨ k = 17 ∨ k = 18 ∨ k = 20) ∨ (k = 2 ∨ k = 14) ∨ (k = 3 ∨ k = 15) ∨ (k = 6 ∨ k = 19) ∨ (k = 8 ∨ k = 16) ∨ (k = 21) by omega) with g | g | g | g | g | g
  · exact rsd_reada k A n c b w hn h8 hc hs k1 k2 g
  · exact rsd_readb k A n c b w hn h8 hc hs k1 k2 g
  · exact rsd_readc k A n c b w hn h8 hc hs k1 k2 g
  · exact rsd_readd k A n c b w hn h8 hc hs k1 k2 g
  · exact rsd_reade k A n c b w hn h8 hc hs k1 k2 g
  · exact rsd_readf k A n c b w hn h8 hc hs k1 k2 g
end
section
open Go.RowKit
set_option maxRecDepth 100000
set_option maxHeartbeats 2000000

/-- the kinds from j on, t of them, that 'of' tries -/
def upK (low : Int) (ab : Bool) : Nat → Int → List Int
  | 0, _ => []
  | t + 1, j => if j < low ∧ (1 < j ∨ ab = false) then upK low ab t (j + 1) else j :: upK low ab t (j + 1)
theorem upK_skip (low : Int) (ab : Bool) (t : Nat) (j : Int) (h : j < low ∧ (1 < j ∨ ab = false)) : upK low ab (t + 1) j = upK low ab t (j + 1) := by rw [upK, if_pos h]
theorem upK_take (low : Int) (ab : Bool) (t : Nat) (j : Int) (h : ¬ (j < low ∧ (1 < j ∨ ab = false))) : upK low ab (t + 1) j = j :: upK low ab t (j + 1) := by rw [upK, if_neg h]
theorem ofM_step' (k : Int) (ks : List Int) (b : List UInt8) (h : hitB k b = false) : ofM (k :: ks) b = ofM ks b := by
  rw [ofM, h]; rfl
theorem rsd_of_len (ks : List Int) (A : Option Addr) (n c : Nat) (lo hi : Int) (ab : Bool) (b : List UInt8) (w : World) (hn : n = b.length) (h8 : b.length ≠ 8) :
    Calls Try.prog 70 #[.slice A n c, .int .i64 lo, .int .i64 hi, .bool ab] w (ReadR ks b w) := by
  rcases Nat.lt_or_gt_of_ne h8 with h | h
  · have HE : Hid (∀ e w', e = .returned (.tuple #[.agg (msV msZ none 0 0), .int .i64 2]) → Below w.heap.size w w' → ReadR ks b w e w') := hide (fun e w' he hb => read_miss ks b w h8 (by unfold errI; rw [if_pos h, if_pos h]) e w' (by rw [if_pos h]; exact he) hb)
    have hn8 : n < 8 := by omega
    clear h h8 hn
    go_enter Try.func70, Try.ntmps70
    go_wp2_with fail
    refine bodyPost_ret (v := .tuple #[.agg (msV msZ none 0 0), .int .i64 2]) (by simp [results, Try.results70, go_sem, msV, msZ]) rfl (HE.out _ _ rfl (by repeat' (first | with_reducible assumption | with_reducible exact Below.refl _ _ | with_reducible apply below_alloc | with_reducible apply below_drew1 | with_reducible apply below_drewN | (with_reducible apply below_step; with_reducible assumption) | (with_reducible apply below_sg2; (first | exact Nat.le_refl _ | (simp; done) | omega)))))
  · have HE : Hid (∀ e w', e = .returned (.tuple #[.agg (msV msZ none 0 0), .int .i64 3]) → Below w.heap.size w w' → ReadR ks b w e w') := hide (fun e w' he hb => read_miss ks b w h8 (by unfold errI; rw [if_neg (by omega), if_pos h, if_neg (by omega)]) e w' (by rw [if_neg (by omega)]; exact he) hb)
    have hn8 : 8 < n := by omega
    clear h h8 hn
    go_enter Try.func70, Try.ntmps70
    go_wp2_with fail
    refine bodyPost_ret (v := .tuple #[.agg (msV msZ none 0 0), .int .i64 3]) (by simp [results, Try.results70, go_sem, msV, msZ]) rfl (HE.out _ _ rfl (by repeat' (first | with_reducible assumption | with_reducible exact Below.refl _ _ | with_reducible apply below_alloc | with_reducible apply below_drew1 | with_reducible apply below_drewN | (with_reducible apply below_step; with_reducible assumption) | (with_reducible apply below_sg2; (first | exact Nat.le_refl _ | (simp; done) | omega)))))
theorem rsd_of8 (ks : List Int) (A : Option Addr) (c : Nat) (lo hi : Int) (ab : Bool) (b : List UInt8) (w : World) (h8 : b.length = 8) (hc : 8 ≤ c) (hs : Sl w A (b.map bv)) (hks : ks = upK lo ab hi.toNat 1) (h0 : 0 ≤ hi) (h21 : hi ≤ 21) (l0 : 0 ≤ lo) (l21 : lo ≤ 30) :
    Calls Try.prog 70 #[.slice A 8 c, .int .i64 lo, .int .i64 hi, .bool ab] w (ReadR ks b w) := by
  have HE : Hid (∀ m A' n' c' e w', ofM ks b = some m → e = .returned (.tuple #[.agg (msV m A' n' c'), .int .i64 0]) → OwnB w' w.heap.size A' n' c' m.data → Below w.heap.size w w' → ReadR ks b w e w') := hide (by
    intro m A' n' c' e w' hm he hO hb
    have h1 : resM ks b = m := by unfold resM; rw [if_pos h8, hm]; rfl
    have h2 : errI ks b = 0 := by unfold errI; rw [if_neg (by omega), if_neg (by omega), hm]; rfl
    exact ⟨A', n', c', by rw [h1, h2]; exact he, by rw [h1]; exact hO, hb⟩)
  have HNO : Hid (∀ e w', ofM ks b = none → e = .returned (.tuple #[.agg (msV msZ none 0 0), .int .i64 4]) → Below w.heap.size w w' → ReadR ks b w e w') := hide (by
    intro e w' hm he hb
    have h1 : resM ks b = msZ := by unfold resM; rw [if_pos h8, hm]; rfl
    have h2 : errI ks b = 4 := by unfold errI; rw [if_neg (by omega), if_neg (by omega), hm]; rfl
    exact ⟨none, 0, 0, by rw [h1, h2]; exact he, by rw [h1]; exact OwnB.nil _ _, hb⟩)
  have H8 := hide h8
  obtain ⟨P, hP⟩ : ∃ P, P = ReadR ks b w := ⟨_, rfl⟩
  rw [← hP] at HE HNO ⊢
  have HKS := hide hks
  clear h8 hP hks
  go_enter Try.func70, Try.ntmps70
  go_wp2_with fail
  go_loopw [10] (fun i wr => ∃ (j : Int) (t : Nat), 1 ≤ j ∧ j + t = hi + 1 ∧ i = .int .i64 j ∧ ofM ks b = ofM (upK lo ab t j) b ∧ Below w.heap.size w wr ∧ Blk wr w.heap.size 43 (msV msZ none 0 0)) (fun i _ => (hi + 1 - intOf i).toNat)
  case atStart =>
    exact ⟨1, hi.toNat, by omega, by omega, rfl, by rw [HKS.out], (by repeat' (first | with_reducible assumption | with_reducible exact Below.refl _ _ | with_reducible apply below_alloc | with_reducible apply below_drew1 | with_reducible apply below_drewN | (with_reducible apply below_step; with_reducible assumption) | (with_reducible apply below_sg2; (first | exact Nat.le_refl _ | (simp; done) | omega)))), blk_one w _ _⟩
  case round =>
    obtain ⟨j, t, hj, hjt, rfl, hof, hbr, qr⟩ := hrel
    have HOF := hide hof
    clear hof
    cases t with
    | zero =>
      have HN : Hid (ofM ks b = none) := hide (by rw [HOF.out]; rfl)
      simp only [msV, msZ] at qr
      have hj2 : hi < j := by omega
      clear hjt
      have qr_c0 := qr.cell 0 rfl
      have qr_f0 := qr.frozen 0
      have qr_c1 := qr.cell 1 rfl
      have qr_f1 := qr.frozen 1
      have qr_c2 := qr.cell 2 rfl
      have qr_f2 := qr.frozen 2
      have qr_c3 := qr.cell 3 rfl
      have qr_f3 := qr.frozen 3
      have qr_c4 := qr.cell 4 rfl
      have qr_f4 := qr.frozen 4
      have qr_c5 := qr.cell 5 rfl
      have qr_f5 := qr.frozen 5
      have qr_c6 := qr.cell 6 rfl
      have qr_f6 := qr.frozen 6
      have qr_c7 := qr.cell 7 rfl
      have qr_f7 := qr.frozen 7
      have qr_c8 := qr.cell 8 rfl
      have qr_f8 := qr.frozen 8
      have qr_c9 := qr.cell 9 rfl
      have qr_f9 := qr.frozen 9
      have qr_c10 := qr.cell 10 rfl
      have qr_f10 := qr.frozen 10
      have qr_c11 := qr.cell 11 rfl
      have qr_f11 := qr.frozen 11
      have qr_c12 := qr.cell 12 rfl
      have qr_f12 := qr.frozen 12
      have qr_c13 := qr.cell 13 rfl
      have qr_f13 := qr.frozen 13
      go_wp2_with fail
      refine bodyPost_ret (v := .tuple #[.agg (msV msZ none 0 0), .int .i64 4]) (by simp [results, Try.results70, go_sem, msV, msZ, qr_c0, qr_f0, qr_c1, qr_f1, qr_c2, qr_f2, qr_c3, qr_f3, qr_c4, qr_f4, qr_c5, qr_f5, qr_c6, qr_f6, qr_c7, qr_f7, qr_c8, qr_f8, qr_c9, qr_f9, qr_c10, qr_f10, qr_c11, qr_f11, qr_c12, qr_f12, qr_c13, qr_f13]) rfl (HNO.out _ _ HN.out rfl ?_)
      repeat' (first | with_reducible assumption | with_reducible exact Below.refl _ _ | with_reducible apply below_alloc | with_reducible apply below_drew1 | with_reducible apply below_drewN | (with_reducible apply below_step; with_reducible assumption) | (with_reducible apply below_sg2; (first | exact Nat.le_refl _ | (simp; done) | omega)))
    | succ t =>
      have hj2 : j ≤ hi := by omega
      have HJ : Hid (j + 1 + (t : Int) = hi + 1) := hide (by omega)
      clear hjt
      by_cases hsk : j < lo ∧ (1 < j ∨ ab = false)
      case pos =>
        have HS := hide (upK_skip lo ab t j hsk)
        obtain ⟨s1, s2⟩ := hsk
        rcases s2 with s2 | rfl
        · go_wp2_with fail
          go_roundw
          case rel => exact ⟨j + 1, t, by omega, HJ.out, by first | rfl | go_num, by rw [HOF.out, HS.out], hbr, qr⟩
          case measure => simp [intOf]; omega
        · by_cases s3 : 1 < j
          · go_wp2_with fail
            go_roundw
            case rel => exact ⟨j + 1, t, by omega, HJ.out, by first | rfl | go_num, by rw [HOF.out, HS.out], hbr, qr⟩
            case measure => simp [intOf]; omega
          · go_wp2_with fail
            go_roundw
            case rel => exact ⟨j + 1, t, by omega, HJ.out, by first | rfl | go_num, by rw [HOF.out, HS.out], hbr, qr⟩
            case measure => simp [intOf]; omega
      case neg =>
        have HT := hide (upK_take lo ab t j hsk)
        have hcase : lo ≤ j ∨ (j < lo ∧ j ≤ 1 ∧ ab = true) := by
          rcases Int.lt_or_le j lo with h | h
          · right
            refine ⟨h, ?_, ?_⟩
            · rcases Int.lt_or_le 1 j with h' | h'
              · exact absurd ⟨h, .inl h'⟩ hsk
              · exact h'
            · cases ab
              · exact absurd ⟨h, .inr rfl⟩ hsk
              · rfl
          · exact .inl h
        clear hsk
        have HR := hide (fun W h => rsd_read j A 8 c b W H8.out.symm H8.out hc h hj (by omega))
        have hbd := guess_bd j b
        obtain ⟨N, hN⟩ : ∃ N, N = guessM j b := ⟨_, rfl⟩
        have HN := hide hN
        have HGB : Hid (∀ W, GuessR j b W = fun e w' => ∃ A' n' c', e = .returned (.agg (msV N A' n' c')) ∧ OwnB w' W.heap.size A' n' c' N.data ∧ Below W.heap.size W w') := hide (by intro W; rw [hN]; rfl)
        rw [← hN] at hbd
        clear hN
        obtain ⟨bd1, bd2, bd3⟩ := hbd
        have HC := hide (fun A n c W h1 h2 => rsd_can N A n c W h1 h2)
        have HL := hide (fun A n c W h1 h2 h3 => rsd_laidM N A n c W h1 h2 h3 bd1 bd2 bd3)
        have HHIT : Hid (hitB j b = (canB N && decide (laidB N = b))) := hide (by unfold hitB; rw [← HN.out])
        have HOK : Hid (hitB j b = true → ofM ks b = some N) := hide (by intro h; rw [HOF.out, HT.out, ofM, if_pos h, ← HN.out])
        obtain ⟨cn, hcn⟩ : ∃ cn, cn = canB N := ⟨_, rfl⟩
        rw [← hcn] at HC HHIT HL
        obtain ⟨L, hL⟩ : ∃ L, L = laidB N := ⟨_, rfl⟩
        rw [← hL] at HL HHIT
        clear hcn hL bd1 bd2 bd3
        obtain ⟨kind, ix, sub, tg, la, cr, sz, size, code, data, sq, bl, em, sum⟩ := N
        simp only [msV] at HC HL HGB
        have hwalk : (lo ≤ j ∧ decide (j < lo) = false) ∨ (j < lo ∧ j ≤ 1 ∧ ab = true) := by
          rcases hcase with h | h
          · exact .inl ⟨h, by simp; omega⟩
          · exact .inr h
        clear hcase
        have hcall : True := trivial
        rcases hwalk with ⟨v1, v2⟩ | ⟨v1, v2, rfl⟩
        · skip
          go_wp2_with fail
          refine (HR.out _ (hs.below hbr)).mono ?_
          rw [HGB.out]
          rintro e w2 ⟨A2, n2, c2, rfl, hO2, hb2⟩
          try dsimp only
          have lr := qr.lt
          have qm := Blk.new w2 43 #[.int .i64 kind, .int .i64 ix, .int .i64 sub, .bool tg, .bool la, .bool cr, .bool sz, .int .u32 (size : Nat), .int .u32 (code : Nat), .slice A2 n2 c2, .int .i64 sq, .int .i64 bl, .int .i64 em, .int .u16 (sum : Nat)]
          have hbX : Below w.heap.size w (w2.alloc (.cells #[.int .i64 kind, .int .i64 ix, .int .i64 sub, .bool tg, .bool la, .bool cr, .bool sz, .int .u32 (size : Nat), .int .u32 (code : Nat), .slice A2 n2 c2, .int .i64 sq, .int .i64 bl, .int .i64 em, .int .u16 (sum : Nat)] 43)) := below_alloc (below_step hb2 hbr) _
          have qrX := (qr.below hb2 lr).alloc (.cells #[.int .i64 kind, .int .i64 ix, .int .i64 sub, .bool tg, .bool la, .bool cr, .bool sz, .int .u32 (size : Nat), .int .u32 (code : Nat), .slice A2 n2 c2, .int .i64 sq, .int .i64 bl, .int .i64 em, .int .u16 (sum : Nat)] 43)
          have hOX := hO2.alloc (.cells #[.int .i64 kind, .int .i64 ix, .int .i64 sub, .bool tg, .bool la, .bool cr, .bool sz, .int .u32 (size : Nat), .int .u32 (code : Nat), .slice A2 n2 c2, .int .i64 sq, .int .i64 bl, .int .i64 em, .int .u16 (sum : Nat)] 43)
          go_wp2_with fail
          generalize w2.alloc (.cells #[.int .i64 kind, .int .i64 ix, .int .i64 sub, .bool tg, .bool la, .bool cr, .bool sz, .int .u32 (size : Nat), .int .u32 (code : Nat), .slice A2 n2 c2, .int .i64 sq, .int .i64 bl, .int .i64 em, .int .u16 (sum : Nat)] 43) = X at *
          have lm := qm.lt
          have lrX := qrX.lt
          have qm_c0 := qm.cell 0 rfl
          have qm_f0 := qm.frozen 0
          have qm_c1 := qm.cell 1 rfl
          have qm_f1 := qm.frozen 1
          have qm_c2 := qm.cell 2 rfl
          have qm_f2 := qm.frozen 2
          have qm_c3 := qm.cell 3 rfl
          have qm_f3 := qm.frozen 3
          have qm_c4 := qm.cell 4 rfl
          have qm_f4 := qm.frozen 4
          have qm_c5 := qm.cell 5 rfl
          have qm_f5 := qm.frozen 5
          have qm_c6 := qm.cell 6 rfl
          have qm_f6 := qm.frozen 6
          have qm_c7 := qm.cell 7 rfl
          have qm_f7 := qm.frozen 7
          have qm_c8 := qm.cell 8 rfl
          have qm_f8 := qm.frozen 8
          have qm_c9 := qm.cell 9 rfl
          have qm_f9 := qm.frozen 9
          have qm_c10 := qm.cell 10 rfl
          have qm_f10 := qm.frozen 10
          have qm_c11 := qm.cell 11 rfl
          have qm_f11 := qm.frozen 11
          have qm_c12 := qm.cell 12 rfl
          have qm_f12 := qm.frozen 12
          have qm_c13 := qm.cell 13 rfl
          have qm_f13 := qm.frozen 13
          have t2 : ∀ Y, Below X.heap.size X Y → (convert 22 9 (.slice A 8 c)).run Try.prog Y = .ok (.string ⟨b.toArray⟩) Y := fun Y hY => str_b c H8.out.symm (hs.below (below_step hY hbX))
          obtain ⟨s2, hs2⟩ : ∃ s : ByteArray, s = ⟨b.toArray⟩ := ⟨_, rfl⟩
          rw [← hs2] at t2
          have HS2 := hide hs2
          clear hs2
          cases cn
          case false =>
            have HH : Hid (hitB j b = false) := hide (by rw [HHIT.out, Bool.false_and])
            refine wp_region_held_drew (S := (fun w' => (∀ p : Addr, p.block < (X).heap.size → w'.cell? p = (X).cell? p) ∧ Below (X).heap.size (X) w')) (by kernel_rfl) ?hS1 (fun hHeld => ?rest1)
            case hS1 => ((try dsimp only); (((try go_split_ands); refine sn_of ?_; repeat' (first | with_reducible assumption | with_reducible exact Below.refl _ _ | with_reducible apply below_alloc | with_reducible apply below_drew1 | with_reducible apply below_drewN | (with_reducible apply below_step; with_reducible assumption) | (with_reducible apply below_sg2; (first | exact Nat.le_refl _ | (simp; done) | omega))))))
            case' rest1 => skip
            refine wpAnyH_take (i := 0) (oi := _) (v := ?v2) rfl (by kernel_rfl) (by kernel_rfl) (by kernel_rfl) (fun _ _ _ h => h) (Or.inl ⟨by rfl, ?hy2⟩) (by assumption) ?rest2
            case hy2 => ((intro w hSw; (try dsimp only at hSw); go_simp) <;> with_reducible rfl)
            case' rest2 => try simp only [List.getElem_toArray, List.getElem_cons_zero, List.getElem_cons_succ, Act.put, List.setIfInBounds_toArray, List.set_cons_zero, List.set_cons_succ]
            refine wpAnyH_ready (rs := [1]) (by kernel_rfl) (by simp) ?_
            refine AllReadyH.cons (o := _) rfl (fun K hK => ?_) AllReadyH.nil
            go_simp
            refine (HC.out A2 n2 c2 _ hOX.hn hOX.drew.sl).mono ?_
            rintro e w3 ⟨rfl, hb3⟩
            try dsimp only
            refine hK.out _ _ ?hS5 (fun hHeld => ?rest5)
            case hS5 => ((try dsimp only); (((try go_split_ands); refine sn_of ?_; repeat' (first | with_reducible assumption | with_reducible exact Below.refl _ _ | with_reducible apply below_alloc | with_reducible apply below_drew1 | with_reducible apply below_drewN | (with_reducible apply below_step; with_reducible assumption) | (with_reducible apply below_sg2; (first | exact Nat.le_refl _ | (simp; done) | omega))))))
            case' rest5 => (clear hK K; try simp only [List.getElem_toArray, List.getElem_cons_zero, List.getElem_cons_succ, Act.put, List.setIfInBounds_toArray, List.set_cons_zero, List.set_cons_succ])
            refine wpAnyH_take (i := 2) (oi := _) (v := ?v6) rfl (by kernel_rfl) (by kernel_rfl) (by kernel_rfl) (fun _ _ _ h => h) (Or.inl ⟨by rfl, ?hy6⟩) (by assumption) ?rest6
            case hy6 => ((intro w hSw; (try dsimp only at hSw); go_simp) <;> with_reducible rfl)
            case' rest6 => try simp only [List.getElem_toArray, List.getElem_cons_zero, List.getElem_cons_succ, Act.put, List.setIfInBounds_toArray, List.set_cons_zero, List.set_cons_succ]
            refine wpAnyH_take (i := 3) (oi := _) (v := undef) rfl (by kernel_rfl) (by kernel_rfl) (by kernel_rfl) (fun _ _ _ h => h) (Or.inr ⟨by rfl, rfl⟩) (by assumption) ?rest7
            case' rest7 => try simp only [List.getElem_toArray, List.getElem_cons_zero, List.getElem_cons_succ, Act.put, List.setIfInBounds_toArray, List.set_cons_zero, List.set_cons_succ]
            refine wpAnyH_take (i := 4) (oi := _) (v := undef) rfl (by kernel_rfl) (by kernel_rfl) (by kernel_rfl) (fun _ _ _ h => h) (Or.inr ⟨by rfl, rfl⟩) (by assumption) ?rest8
            case' rest8 => try simp only [List.getElem_toArray, List.getElem_cons_zero, List.getElem_cons_succ, Act.put, List.setIfInBounds_toArray, List.set_cons_zero, List.set_cons_succ]
            refine wpAnyH_take (i := 5) (oi := _) (v := undef) rfl (by kernel_rfl) (by kernel_rfl) (by kernel_rfl) (fun _ _ _ h => h) (Or.inr ⟨by rfl, rfl⟩) (by assumption) ?rest9
            case' rest9 => try simp only [List.getElem_toArray, List.getElem_cons_zero, List.getElem_cons_succ, Act.put, List.setIfInBounds_toArray, List.set_cons_zero, List.set_cons_succ]
            refine wpAnyH_take (i := 6) (oi := _) (v := undef) rfl (by kernel_rfl) (by kernel_rfl) (by kernel_rfl) (fun _ _ _ h => h) (Or.inr ⟨by rfl, rfl⟩) (by assumption) ?rest10
            case' rest10 => try simp only [List.getElem_toArray, List.getElem_cons_zero, List.getElem_cons_succ, Act.put, List.setIfInBounds_toArray, List.set_cons_zero, List.set_cons_succ]
            refine wpAnyH_take (i := 7) (oi := _) (v := undef) rfl (by kernel_rfl) (by kernel_rfl) (by kernel_rfl) (fun _ _ _ h => h) (Or.inr ⟨by rfl, rfl⟩) (by assumption) ?rest11
            case' rest11 => try simp only [List.getElem_toArray, List.getElem_cons_zero, List.getElem_cons_succ, Act.put, List.setIfInBounds_toArray, List.set_cons_zero, List.set_cons_succ]
            refine wpAnyH_take (i := 8) (oi := _) (v := undef) rfl (by kernel_rfl) (by kernel_rfl) (by kernel_rfl) (fun _ _ _ h => h) (Or.inr ⟨by rfl, rfl⟩) (by assumption) ?rest12
            case' rest12 => try simp only [List.getElem_toArray, List.getElem_cons_zero, List.getElem_cons_succ, Act.put, List.setIfInBounds_toArray, List.set_cons_zero, List.set_cons_succ]
            refine wpAnyH_take (i := 9) (oi := _) (v := ?v13) rfl (by kernel_rfl) (by kernel_rfl) (by kernel_rfl) (fun _ _ _ h => h) (Or.inl ⟨by rfl, ?hy13⟩) (by assumption) ?rest13
            case hy13 => ((intro w hSw; (try dsimp only at hSw); go_simp) <;> with_reducible rfl)
            case' rest13 => try simp only [List.getElem_toArray, List.getElem_cons_zero, List.getElem_cons_succ, Act.put, List.setIfInBounds_toArray, List.set_cons_zero, List.set_cons_succ]
            refine wpAnyH_done (by kernel_rfl) ?_ _
            have hEnd := hHeld.2
            repeat (clear hHeld)
            have hbE := below_step hEnd hbX
            have qrE := qrX.below hEnd lrX
            clear hEnd t2
            clear qm_c0 qm_f0 qm_c1 qm_f1 qm_c2 qm_f2 qm_c3 qm_f3 qm_c4 qm_f4 qm_c5 qm_f5 qm_c6 qm_f6 qm_c7 qm_f7 qm_c8 qm_f8 qm_c9 qm_f9 qm_c10 qm_f10 qm_c11 qm_f11 qm_c12 qm_f12 qm_c13 qm_f13
            clear qm
            go_wp2_with fail
            go_roundw
            case rel => exact ⟨j + 1, t, by omega, HJ.out, by first | rfl | go_num, by rw [HOF.out, HT.out, ofM_step' _ _ _ HH.out], hbE, qrE⟩
            case measure => simp [intOf]; omega
          case true =>
            refine wp_region_held_drew (S := (fun w' => (∀ p : Addr, p.block < (X).heap.size → w'.cell? p = (X).cell? p) ∧ Below (X).heap.size (X) w')) (by kernel_rfl) ?hS15 (fun hHeld => ?rest15)
            case hS15 => ((try dsimp only); (((try go_split_ands); refine sn_of ?_; repeat' (first | with_reducible assumption | with_reducible exact Below.refl _ _ | with_reducible apply below_alloc | with_reducible apply below_drew1 | with_reducible apply below_drewN | (with_reducible apply below_step; with_reducible assumption) | (with_reducible apply below_sg2; (first | exact Nat.le_refl _ | (simp; done) | omega))))))
            case' rest15 => skip
            refine wpAnyH_take (i := 0) (oi := _) (v := ?v16) rfl (by kernel_rfl) (by kernel_rfl) (by kernel_rfl) (fun _ _ _ h => h) (Or.inl ⟨by rfl, ?hy16⟩) (by assumption) ?rest16
            case hy16 => ((intro w hSw; (try dsimp only at hSw); go_simp) <;> with_reducible rfl)
            case' rest16 => try simp only [List.getElem_toArray, List.getElem_cons_zero, List.getElem_cons_succ, Act.put, List.setIfInBounds_toArray, List.set_cons_zero, List.set_cons_succ]
            refine wpAnyH_ready (rs := [1]) (by kernel_rfl) (by simp) ?_
            refine AllReadyH.cons (o := _) rfl (fun K hK => ?_) AllReadyH.nil
            go_simp
            refine (HC.out A2 n2 c2 _ hOX.hn hOX.drew.sl).mono ?_
            rintro e w3 ⟨rfl, hb3⟩
            try dsimp only
            refine hK.out _ _ ?hS19 (fun hHeld => ?rest19)
            case hS19 => ((try dsimp only); (((try go_split_ands); refine sn_of ?_; repeat' (first | with_reducible assumption | with_reducible exact Below.refl _ _ | with_reducible apply below_alloc | with_reducible apply below_drew1 | with_reducible apply below_drewN | (with_reducible apply below_step; with_reducible assumption) | (with_reducible apply below_sg2; (first | exact Nat.le_refl _ | (simp; done) | omega))))))
            case' rest19 => (clear hK K; try simp only [List.getElem_toArray, List.getElem_cons_zero, List.getElem_cons_succ, Act.put, List.setIfInBounds_toArray, List.set_cons_zero, List.set_cons_succ])
            refine wpAnyH_take (i := 2) (oi := _) (v := ?v20) rfl (by kernel_rfl) (by kernel_rfl) (by kernel_rfl) (fun _ _ _ h => h) (Or.inl ⟨by rfl, ?hy20⟩) (by assumption) ?rest20
            case hy20 => ((intro w hSw; (try dsimp only at hSw); go_simp) <;> with_reducible rfl)
            case' rest20 => try simp only [List.getElem_toArray, List.getElem_cons_zero, List.getElem_cons_succ, Act.put, List.setIfInBounds_toArray, List.set_cons_zero, List.set_cons_succ]
            refine wpAnyH_take (i := 3) (oi := _) (v := ?v21) rfl (by kernel_rfl) (by kernel_rfl) (by kernel_rfl) (fun _ _ _ h => h) (Or.inl ⟨by rfl, ?hy21⟩) (by assumption) ?rest21
            case hy21 => ((intro w hSw; (try dsimp only at hSw); go_simp) <;> with_reducible rfl)
            case' rest21 => try simp only [List.getElem_toArray, List.getElem_cons_zero, List.getElem_cons_succ, Act.put, List.setIfInBounds_toArray, List.set_cons_zero, List.set_cons_succ]
            refine wpAnyH_take (i := 6) (oi := _) (v := ?v22) rfl (by kernel_rfl) (by kernel_rfl) (by kernel_rfl) (fun _ _ _ h => h) (Or.inl ⟨by rfl, ?hy22⟩) (by assumption) ?rest22
            case hy22 => ((intro w hSw; (try dsimp only at hSw); go_simp) <;> with_reducible rfl)
            case' rest22 => try simp only [List.getElem_toArray, List.getElem_cons_zero, List.getElem_cons_succ, Act.put, List.setIfInBounds_toArray, List.set_cons_zero, List.set_cons_succ]
            refine wpAnyH_take (i := 7) (oi := _) (v := ?v23) rfl (by kernel_rfl) (by kernel_rfl) (by kernel_rfl) (fun _ _ _ h => h) (Or.inl ⟨by rfl, ?hy23⟩) (by assumption) ?rest23
            case hy23 => ((intro w hSw; (try dsimp only at hSw); go_simp) <;> with_reducible rfl)
            case' rest23 => try simp only [List.getElem_toArray, List.getElem_cons_zero, List.getElem_cons_succ, Act.put, List.setIfInBounds_toArray, List.set_cons_zero, List.set_cons_succ]
            refine wpAnyH_ready (rs := [4]) (by kernel_rfl) (by simp) ?_
            refine AllReadyH.cons (o := _) rfl (fun K hK => ?_) AllReadyH.nil
            go_simp
            refine (HL.out A2 n2 c2 _ hOX.hn (hOX.drew.below hb3).sl (by first | rfl | trivial)).mono ?_
            rintro e w4 ⟨g4, rfl, hO4, hb4⟩
            try dsimp only
            have t1 := str_b 8 hO4.hn hO4.sl
            by_cases heq : L = b
            case pos =>
              rw [heq, ← HS2.out] at t1
              refine hK.out _ _ ?hS26 (fun hHeld => ?rest26)
              case hS26 => ((try dsimp only); (((try go_split_ands); refine sn_of ?_; repeat' (first | with_reducible assumption | with_reducible exact Below.refl _ _ | with_reducible apply below_alloc | with_reducible apply below_drew1 | with_reducible apply below_drewN | (with_reducible apply below_step; with_reducible assumption) | (with_reducible apply below_sg2; (first | exact Nat.le_refl _ | (simp; done) | omega))))))
              case' rest26 => (clear hK K; try simp only [List.getElem_toArray, List.getElem_cons_zero, List.getElem_cons_succ, Act.put, List.setIfInBounds_toArray, List.set_cons_zero, List.set_cons_succ])
              refine wpAnyH_ready (rs := [5]) (by kernel_rfl) (by simp) ?_
              refine AllReadyH.cons (o := _) rfl (fun K hK => ?_) AllReadyH.nil
              go_simp
              refine hK.out _ _ ?hS29 (fun hHeld => ?rest29)
              case hS29 => ((try dsimp only); (((try go_split_ands); refine sn_of ?_; repeat' (first | with_reducible assumption | with_reducible exact Below.refl _ _ | with_reducible apply below_alloc | with_reducible apply below_drew1 | with_reducible apply below_drewN | (with_reducible apply below_step; with_reducible assumption) | (with_reducible apply below_sg2; (first | exact Nat.le_refl _ | (simp; done) | omega))))))
              case' rest29 => (clear hK K; try simp only [List.getElem_toArray, List.getElem_cons_zero, List.getElem_cons_succ, Act.put, List.setIfInBounds_toArray, List.set_cons_zero, List.set_cons_succ])
              refine wpAnyH_take (i := 8) (oi := _) (v := ?v30) rfl (by kernel_rfl) (by kernel_rfl) (by kernel_rfl) (fun _ _ _ h => h) (Or.inl ⟨by rfl, ?hy30⟩) (by assumption) ?rest30
              case hy30 => ((intro w hSw; (try dsimp only at hSw); go_simp) <;> with_reducible rfl)
              case' rest30 => try simp only [List.getElem_toArray, List.getElem_cons_zero, List.getElem_cons_succ, Act.put, List.setIfInBounds_toArray, List.set_cons_zero, List.set_cons_succ]
              refine wpAnyH_take (i := 9) (oi := _) (v := ?v31) rfl (by kernel_rfl) (by kernel_rfl) (by kernel_rfl) (fun _ _ _ h => h) (Or.inl ⟨by rfl, ?hy31⟩) (by assumption) ?rest31
              case hy31 => ((intro w hSw; (try dsimp only at hSw); go_simp) <;> with_reducible rfl)
              case' rest31 => try simp only [List.getElem_toArray, List.getElem_cons_zero, List.getElem_cons_succ, Act.put, List.setIfInBounds_toArray, List.set_cons_zero, List.set_cons_succ]
              refine wpAnyH_done (by kernel_rfl) ?_ _
              have hEnd := hHeld.2
              repeat (clear hHeld)
              have hm := HOK.out (by rw [HHIT.out, decide_eq_true heq]; rfl)
              have HM := hide hm
              clear hm heq t1 t2 hO4
              have qmE := qm.below hEnd lm
              have qrE := qrX.below hEnd lrX
              have hOE := hOX.below hEnd
              have hbE := below_step hEnd hbX
              clear hEnd
              clear qm_c0 qm_f0 qm_c1 qm_f1 qm_c2 qm_f2 qm_c3 qm_f3 qm_c4 qm_f4 qm_c5 qm_f5 qm_c6 qm_f6 qm_c7 qm_f7 qm_c8 qm_f8 qm_c9 qm_f9 qm_c10 qm_f10 qm_c11 qm_f11 qm_c12 qm_f12 qm_c13 qm_f13
              clear qm
              simp only [msV, msZ] at qrE
              have qmE_c0 := qmE.cell 0 rfl
              have qmE_f0 := qmE.frozen 0
              have qmE_c1 := qmE.cell 1 rfl
              have qmE_f1 := qmE.frozen 1
              have qmE_c2 := qmE.cell 2 rfl
              have qmE_f2 := qmE.frozen 2
              have qmE_c3 := qmE.cell 3 rfl
              have qmE_f3 := qmE.frozen 3
              have qmE_c4 := qmE.cell 4 rfl
              have qmE_f4 := qmE.frozen 4
              have qmE_c5 := qmE.cell 5 rfl
              have qmE_f5 := qmE.frozen 5
              have qmE_c6 := qmE.cell 6 rfl
              have qmE_f6 := qmE.frozen 6
              have qmE_c7 := qmE.cell 7 rfl
              have qmE_f7 := qmE.frozen 7
              have qmE_c8 := qmE.cell 8 rfl
              have qmE_f8 := qmE.frozen 8
              have qmE_c9 := qmE.cell 9 rfl
              have qmE_f9 := qmE.frozen 9
              have qmE_c10 := qmE.cell 10 rfl
              have qmE_f10 := qmE.frozen 10
              have qmE_c11 := qmE.cell 11 rfl
              have qmE_f11 := qmE.frozen 11
              have qmE_c12 := qmE.cell 12 rfl
              have qmE_f12 := qmE.frozen 12
              have qmE_c13 := qmE.cell 13 rfl
              have qmE_f13 := qmE.frozen 13
              have qrE_c0 := qrE.cell 0 rfl
              have qrE_f0 := qrE.frozen 0
              have qrE_c1 := qrE.cell 1 rfl
              have qrE_f1 := qrE.frozen 1
              have qrE_c2 := qrE.cell 2 rfl
              have qrE_f2 := qrE.frozen 2
              have qrE_c3 := qrE.cell 3 rfl
              have qrE_f3 := qrE.frozen 3
              have qrE_c4 := qrE.cell 4 rfl
              have qrE_f4 := qrE.frozen 4
              have qrE_c5 := qrE.cell 5 rfl
              have qrE_f5 := qrE.frozen 5
              have qrE_c6 := qrE.cell 6 rfl
              have qrE_f6 := qrE.frozen 6
              have qrE_c7 := qrE.cell 7 rfl
              have qrE_f7 := qrE.frozen 7
              have qrE_c8 := qrE.cell 8 rfl
              have qrE_f8 := qrE.frozen 8
              have qrE_c9 := qrE.cell 9 rfl
              have qrE_f9 := qrE.frozen 9
              have qrE_c10 := qrE.cell 10 rfl
              have qrE_f10 := qrE.frozen 10
              have qrE_c11 := qrE.cell 11 rfl
              have qrE_f11 := qrE.frozen 11
              have qrE_c12 := qrE.cell 12 rfl
              have qrE_f12 := qrE.frozen 12
              have qrE_c13 := qrE.cell 13 rfl
              have qrE_f13 := qrE.frozen 13
              go_wp2_with fail
              refine bodyPost_ret (v := .tuple #[.agg #[.int .i64 kind, .int .i64 ix, .int .i64 sub, .bool tg, .bool la, .bool cr, .bool sz, .int .u32 (size : Nat), .int .u32 (code : Nat), .slice A2 n2 c2, .int .i64 sq, .int .i64 bl, .int .i64 em, .int .u16 (sum : Nat)], .int .i64 0]) (by simp [results, Try.results70, go_sem, qrE_c0, qrE_f0, qrE_c1, qrE_f1, qrE_c2, qrE_f2, qrE_c3, qrE_f3, qrE_c4, qrE_f4, qrE_c5, qrE_f5, qrE_c6, qrE_f6, qrE_c7, qrE_f7, qrE_c8, qrE_f8, qrE_c9, qrE_f9, qrE_c10, qrE_f10, qrE_c11, qrE_f11, qrE_c12, qrE_f12, qrE_c13, qrE_f13]) rfl (HE.out _ A2 n2 c2 _ _ HM.out rfl ?_ ?_)
              · exact (own_row14 hOE lr _ _ _ _ _ _ _ _ _ _ _ _ _ _).mono hbr.size
              · repeat' (first | with_reducible assumption | with_reducible exact Below.refl _ _ | with_reducible apply below_alloc | with_reducible apply below_drew1 | with_reducible apply below_drewN | (with_reducible apply below_step; with_reducible assumption) | (with_reducible apply below_sg2; (first | exact Nat.le_refl _ | (simp; done) | omega)))
            case neg =>
              have HH : Hid (hitB j b = false) := hide (by rw [HHIT.out, decide_eq_false heq, Bool.and_false])
              obtain ⟨s1, hs1⟩ : ∃ s : ByteArray, s = ⟨L.toArray⟩ := ⟨_, rfl⟩
              have hx : (s1.toList == s2.toList) = false := by
                rw [beq_eq_false_iff_ne, hs1, HS2.out]
                intro h
                exact heq (by simpa using h)
              rw [← hs1] at t1
              clear heq hs1
              refine hK.out _ _ ?hS33 (fun hHeld => ?rest33)
              case hS33 => ((try dsimp only); (((try go_split_ands); refine sn_of ?_; repeat' (first | with_reducible assumption | with_reducible exact Below.refl _ _ | with_reducible apply below_alloc | with_reducible apply below_drew1 | with_reducible apply below_drewN | (with_reducible apply below_step; with_reducible assumption) | (with_reducible apply below_sg2; (first | exact Nat.le_refl _ | (simp; done) | omega))))))
              case' rest33 => (clear hK K; try simp only [List.getElem_toArray, List.getElem_cons_zero, List.getElem_cons_succ, Act.put, List.setIfInBounds_toArray, List.set_cons_zero, List.set_cons_succ])
              refine wpAnyH_ready (rs := [5]) (by kernel_rfl) (by simp) ?_
              refine AllReadyH.cons (o := _) rfl (fun K hK => ?_) AllReadyH.nil
              go_simp
              refine hK.out _ _ ?hS36 (fun hHeld => ?rest36)
              case hS36 => ((try dsimp only); (((try go_split_ands); refine sn_of ?_; repeat' (first | with_reducible assumption | with_reducible exact Below.refl _ _ | with_reducible apply below_alloc | with_reducible apply below_drew1 | with_reducible apply below_drewN | (with_reducible apply below_step; with_reducible assumption) | (with_reducible apply below_sg2; (first | exact Nat.le_refl _ | (simp; done) | omega))))))
              case' rest36 => (clear hK K; try simp only [List.getElem_toArray, List.getElem_cons_zero, List.getElem_cons_succ, Act.put, List.setIfInBounds_toArray, List.set_cons_zero, List.set_cons_succ])
              refine wpAnyH_take (i := 8) (oi := _) (v := ?v37) rfl (by kernel_rfl) (by kernel_rfl) (by kernel_rfl) (fun _ _ _ h => h) (Or.inl ⟨by rfl, ?hy37⟩) (by assumption) ?rest37
              case hy37 => ((intro w hSw; (try dsimp only at hSw); go_simp) <;> with_reducible rfl)
              case' rest37 => try simp only [List.getElem_toArray, List.getElem_cons_zero, List.getElem_cons_succ, Act.put, List.setIfInBounds_toArray, List.set_cons_zero, List.set_cons_succ]
              refine wpAnyH_take (i := 9) (oi := _) (v := ?v38) rfl (by kernel_rfl) (by kernel_rfl) (by kernel_rfl) (fun _ _ _ h => h) (Or.inl ⟨by rfl, ?hy38⟩) (by assumption) ?rest38
              case hy38 => ((intro w hSw; (try dsimp only at hSw); go_simp) <;> with_reducible rfl)
              case' rest38 => try simp only [List.getElem_toArray, List.getElem_cons_zero, List.getElem_cons_succ, Act.put, List.setIfInBounds_toArray, List.set_cons_zero, List.set_cons_succ]
              refine wpAnyH_done (by kernel_rfl) ?_ _
              have hEnd := hHeld.2
              repeat (clear hHeld)
              clear t1 t2 hO4
              have qrE := qrX.below hEnd lrX
              have hbE := below_step hEnd hbX
              clear hEnd
              clear qm_c0 qm_f0 qm_c1 qm_f1 qm_c2 qm_f2 qm_c3 qm_f3 qm_c4 qm_f4 qm_c5 qm_f5 qm_c6 qm_f6 qm_c7 qm_f7 qm_c8 qm_f8 qm_c9 qm_f9 qm_c10 qm_f10 qm_c11 qm_f11 qm_c12 qm_f12 qm_c13 qm_f13
              clear qm
              go_wp2_with fail
              go_roundw
              case rel => exact ⟨j + 1, t, by omega, HJ.out, by first | rfl | go_num, by rw [HOF.out, HT.out, ofM_step' _ _ _ HH.out], hbE, qrE⟩
              case measure => simp [intOf]; omega
        · skip
          go_wp2_with fail
          refine (HR.out _ (hs.below hbr)).mono ?_
          rw [HGB.out]
          rintro e w2 ⟨A2, n2, c2, rfl, hO2, hb2⟩
          try dsimp only
          have lr := qr.lt
          have qm := Blk.new w2 43 #[.int .i64 kind, .int .i64 ix, .int .i64 sub, .bool tg, .bool la, .bool cr, .bool sz, .int .u32 (size : Nat), .int .u32 (code : Nat), .slice A2 n2 c2, .int .i64 sq, .int .i64 bl, .int .i64 em, .int .u16 (sum : Nat)]
          have hbX : Below w.heap.size w (w2.alloc (.cells #[.int .i64 kind, .int .i64 ix, .int .i64 sub, .bool tg, .bool la, .bool cr, .bool sz, .int .u32 (size : Nat), .int .u32 (code : Nat), .slice A2 n2 c2, .int .i64 sq, .int .i64 bl, .int .i64 em, .int .u16 (sum : Nat)] 43)) := below_alloc (below_step hb2 hbr) _
          have qrX := (qr.below hb2 lr).alloc (.cells #[.int .i64 kind, .int .i64 ix, .int .i64 sub, .bool tg, .bool la, .bool cr, .bool sz, .int .u32 (size : Nat), .int .u32 (code : Nat), .slice A2 n2 c2, .int .i64 sq, .int .i64 bl, .int .i64 em, .int .u16 (sum : Nat)] 43)
          have hOX := hO2.alloc (.cells #[.int .i64 kind, .int .i64 ix, .int .i64 sub, .bool tg, .bool la, .bool cr, .bool sz, .int .u32 (size : Nat), .int .u32 (code : Nat), .slice A2 n2 c2, .int .i64 sq, .int .i64 bl, .int .i64 em, .int .u16 (sum : Nat)] 43)
          go_wp2_with fail
          generalize w2.alloc (.cells #[.int .i64 kind, .int .i64 ix, .int .i64 sub, .bool tg, .bool la, .bool cr, .bool sz, .int .u32 (size : Nat), .int .u32 (code : Nat), .slice A2 n2 c2, .int .i64 sq, .int .i64 bl, .int .i64 em, .int .u16 (sum : Nat)] 43) = X at *
          have lm := qm.lt
          have lrX := qrX.lt
          have qm_c0 := qm.cell 0 rfl
          have qm_f0 := qm.frozen 0
          have qm_c1 := qm.cell 1 rfl
          have qm_f1 := qm.frozen 1
          have qm_c2 := qm.cell 2 rfl
          have qm_f2 := qm.frozen 2
          have qm_c3 := qm.cell 3 rfl
          have qm_f3 := qm.frozen 3
          have qm_c4 := qm.cell 4 rfl
          have qm_f4 := qm.frozen 4
          have qm_c5 := qm.cell 5 rfl
          have qm_f5 := qm.frozen 5
          have qm_c6 := qm.cell 6 rfl
          have qm_f6 := qm.frozen 6
          have qm_c7 := qm.cell 7 rfl
          have qm_f7 := qm.frozen 7
          have qm_c8 := qm.cell 8 rfl
          have qm_f8 := qm.frozen 8
          have qm_c9 := qm.cell 9 rfl
          have qm_f9 := qm.frozen 9
          have qm_c10 := qm.cell 10 rfl
          have qm_f10 := qm.frozen 10
          have qm_c11 := qm.cell 11 rfl
          have qm_f11 := qm.frozen 11
          have qm_c12 := qm.cell 12 rfl
          have qm_f12 := qm.frozen 12
          have qm_c13 := qm.cell 13 rfl
          have qm_f13 := qm.frozen 13
          have t2 : ∀ Y, Below X.heap.size X Y → (convert 22 9 (.slice A 8 c)).run Try.prog Y = .ok (.string ⟨b.toArray⟩) Y := fun Y hY => str_b c H8.out.symm (hs.below (below_step hY hbX))
          obtain ⟨s2, hs2⟩ : ∃ s : ByteArray, s = ⟨b.toArray⟩ := ⟨_, rfl⟩
          rw [← hs2] at t2
          have HS2 := hide hs2
          clear hs2
          cases cn
          case false =>
            have HH : Hid (hitB j b = false) := hide (by rw [HHIT.out, Bool.false_and])
            refine wp_region_held_drew (S := (fun w' => (∀ p : Addr, p.block < (X).heap.size → w'.cell? p = (X).cell? p) ∧ Below (X).heap.size (X) w')) (by kernel_rfl) ?hS40 (fun hHeld => ?rest40)
            case hS40 => ((try dsimp only); (((try go_split_ands); refine sn_of ?_; repeat' (first | with_reducible assumption | with_reducible exact Below.refl _ _ | with_reducible apply below_alloc | with_reducible apply below_drew1 | with_reducible apply below_drewN | (with_reducible apply below_step; with_reducible assumption) | (with_reducible apply below_sg2; (first | exact Nat.le_refl _ | (simp; done) | omega))))))
            case' rest40 => skip
            refine wpAnyH_take (i := 0) (oi := _) (v := ?v41) rfl (by kernel_rfl) (by kernel_rfl) (by kernel_rfl) (fun _ _ _ h => h) (Or.inl ⟨by rfl, ?hy41⟩) (by assumption) ?rest41
            case hy41 => ((intro w hSw; (try dsimp only at hSw); go_simp) <;> with_reducible rfl)
            case' rest41 => try simp only [List.getElem_toArray, List.getElem_cons_zero, List.getElem_cons_succ, Act.put, List.setIfInBounds_toArray, List.set_cons_zero, List.set_cons_succ]
            refine wpAnyH_ready (rs := [1]) (by kernel_rfl) (by simp) ?_
            refine AllReadyH.cons (o := _) rfl (fun K hK => ?_) AllReadyH.nil
            go_simp
            refine (HC.out A2 n2 c2 _ hOX.hn hOX.drew.sl).mono ?_
            rintro e w3 ⟨rfl, hb3⟩
            try dsimp only
            refine hK.out _ _ ?hS44 (fun hHeld => ?rest44)
            case hS44 => ((try dsimp only); (((try go_split_ands); refine sn_of ?_; repeat' (first | with_reducible assumption | with_reducible exact Below.refl _ _ | with_reducible apply below_alloc | with_reducible apply below_drew1 | with_reducible apply below_drewN | (with_reducible apply below_step; with_reducible assumption) | (with_reducible apply below_sg2; (first | exact Nat.le_refl _ | (simp; done) | omega))))))
            case' rest44 => (clear hK K; try simp only [List.getElem_toArray, List.getElem_cons_zero, List.getElem_cons_succ, Act.put, List.setIfInBounds_toArray, List.set_cons_zero, List.set_cons_succ])
            refine wpAnyH_take (i := 2) (oi := _) (v := ?v45) rfl (by kernel_rfl) (by kernel_rfl) (by kernel_rfl) (fun _ _ _ h => h) (Or.inl ⟨by rfl, ?hy45⟩) (by assumption) ?rest45
            case hy45 => ((intro w hSw; (try dsimp only at hSw); go_simp) <;> with_reducible rfl)
            case' rest45 => try simp only [List.getElem_toArray, List.getElem_cons_zero, List.getElem_cons_succ, Act.put, List.setIfInBounds_toArray, List.set_cons_zero, List.set_cons_succ]
            refine wpAnyH_take (i := 3) (oi := _) (v := undef) rfl (by kernel_rfl) (by kernel_rfl) (by kernel_rfl) (fun _ _ _ h => h) (Or.inr ⟨by rfl, rfl⟩) (by assumption) ?rest46
            case' rest46 => try simp only [List.getElem_toArray, List.getElem_cons_zero, List.getElem_cons_succ, Act.put, List.setIfInBounds_toArray, List.set_cons_zero, List.set_cons_succ]
            refine wpAnyH_take (i := 4) (oi := _) (v := undef) rfl (by kernel_rfl) (by kernel_rfl) (by kernel_rfl) (fun _ _ _ h => h) (Or.inr ⟨by rfl, rfl⟩) (by assumption) ?rest47
            case' rest47 => try simp only [List.getElem_toArray, List.getElem_cons_zero, List.getElem_cons_succ, Act.put, List.setIfInBounds_toArray, List.set_cons_zero, List.set_cons_succ]
            refine wpAnyH_take (i := 5) (oi := _) (v := undef) rfl (by kernel_rfl) (by kernel_rfl) (by kernel_rfl) (fun _ _ _ h => h) (Or.inr ⟨by rfl, rfl⟩) (by assumption) ?rest48
            case' rest48 => try simp only [List.getElem_toArray, List.getElem_cons_zero, List.getElem_cons_succ, Act.put, List.setIfInBounds_toArray, List.set_cons_zero, List.set_cons_succ]
            refine wpAnyH_take (i := 6) (oi := _) (v := undef) rfl (by kernel_rfl) (by kernel_rfl) (by kernel_rfl) (fun _ _ _ h => h) (Or.inr ⟨by rfl, rfl⟩) (by assumption) ?rest49
            case' rest49 => try simp only [List.getElem_toArray, List.getElem_cons_zero, List.getElem_cons_succ, Act.put, List.setIfInBounds_toArray, List.set_cons_zero, List.set_cons_succ]
            refine wpAnyH_take (i := 7) (oi := _) (v := undef) rfl (by kernel_rfl) (by kernel_rfl) (by kernel_rfl) (fun _ _ _ h => h) (Or.inr ⟨by rfl, rfl⟩) (by assumption) ?rest50
            case' rest50 => try simp only [List.getElem_toArray, List.getElem_cons_zero, List.getElem_cons_succ, Act.put, List.setIfInBounds_toArray, List.set_cons_zero, List.set_cons_succ]
            refine wpAnyH_take (i := 8) (oi := _) (v := undef) rfl (by kernel_rfl) (by kernel_rfl) (by kernel_rfl) (fun _ _ _ h => h) (Or.inr ⟨by rfl, rfl⟩) (by assumption) ?rest51
            case' rest51 => try simp only [List.getElem_toArray, List.getElem_cons_zero, List.getElem_cons_succ, Act.put, List.setIfInBounds_toArray, List.set_cons_zero, List.set_cons_succ]
            refine wpAnyH_take (i := 9) (oi := _) (v := ?v52) rfl (by kernel_rfl) (by kernel_rfl) (by kernel_rfl) (fun _ _ _ h => h) (Or.inl ⟨by rfl, ?hy52⟩) (by assumption) ?rest52
            case hy52 => ((intro w hSw; (try dsimp only at hSw); go_simp) <;> with_reducible rfl)
            case' rest52 => try simp only [List.getElem_toArray, List.getElem_cons_zero, List.getElem_cons_succ, Act.put, List.setIfInBounds_toArray, List.set_cons_zero, List.set_cons_succ]
            refine wpAnyH_done (by kernel_rfl) ?_ _
            have hEnd := hHeld.2
            repeat (clear hHeld)
            have hbE := below_step hEnd hbX
            have qrE := qrX.below hEnd lrX
            clear hEnd t2
            clear qm_c0 qm_f0 qm_c1 qm_f1 qm_c2 qm_f2 qm_c3 qm_f3 qm_c4 qm_f4 qm_c5 qm_f5 qm_c6 qm_f6 qm_c7 qm_f7 qm_c8 qm_f8 qm_c9 qm_f9 qm_c10 qm_f10 qm_c11 qm_f11 qm_c12 qm_f12 qm_c13 qm_f13
            clear qm
            go_wp2_with fail
            go_roundw
            case rel => exact ⟨j + 1, t, by omega, HJ.out, by first | rfl | go_num, by rw [HOF.out, HT.out, ofM_step' _ _ _ HH.out], hbE, qrE⟩
            case measure => simp [intOf]; omega
          case true =>
            refine wp_region_held_drew (S := (fun w' => (∀ p : Addr, p.block < (X).heap.size → w'.cell? p = (X).cell? p) ∧ Below (X).heap.size (X) w')) (by kernel_rfl) ?hS54 (fun hHeld => ?rest54)
            case hS54 => ((try dsimp only); (((try go_split_ands); refine sn_of ?_; repeat' (first | with_reducible assumption | with_reducible exact Below.refl _ _ | with_reducible apply below_alloc | with_reducible apply below_drew1 | with_reducible apply below_drewN | (with_reducible apply below_step; with_reducible assumption) | (with_reducible apply below_sg2; (first | exact Nat.le_refl _ | (simp; done) | omega))))))
            case' rest54 => skip
            refine wpAnyH_take (i := 0) (oi := _) (v := ?v55) rfl (by kernel_rfl) (by kernel_rfl) (by kernel_rfl) (fun _ _ _ h => h) (Or.inl ⟨by rfl, ?hy55⟩) (by assumption) ?rest55
            case hy55 => ((intro w hSw; (try dsimp only at hSw); go_simp) <;> with_reducible rfl)
            case' rest55 => try simp only [List.getElem_toArray, List.getElem_cons_zero, List.getElem_cons_succ, Act.put, List.setIfInBounds_toArray, List.set_cons_zero, List.set_cons_succ]
            refine wpAnyH_ready (rs := [1]) (by kernel_rfl) (by simp) ?_
            refine AllReadyH.cons (o := _) rfl (fun K hK => ?_) AllReadyH.nil
            go_simp
            refine (HC.out A2 n2 c2 _ hOX.hn hOX.drew.sl).mono ?_
            rintro e w3 ⟨rfl, hb3⟩
            try dsimp only
            refine hK.out _ _ ?hS58 (fun hHeld => ?rest58)
            case hS58 => ((try dsimp only); (((try go_split_ands); refine sn_of ?_; repeat' (first | with_reducible assumption | with_reducible exact Below.refl _ _ | with_reducible apply below_alloc | with_reducible apply below_drew1 | with_reducible apply below_drewN | (with_reducible apply below_step; with_reducible assumption) | (with_reducible apply below_sg2; (first | exact Nat.le_refl _ | (simp; done) | omega))))))
            case' rest58 => (clear hK K; try simp only [List.getElem_toArray, List.getElem_cons_zero, List.getElem_cons_succ, Act.put, List.setIfInBounds_toArray, List.set_cons_zero, List.set_cons_succ])
            refine wpAnyH_take (i := 2) (oi := _) (v := ?v59) rfl (by kernel_rfl) (by kernel_rfl) (by kernel_rfl) (fun _ _ _ h => h) (Or.inl ⟨by rfl, ?hy59⟩) (by assumption) ?rest59
            case hy59 => ((intro w hSw; (try dsimp only at hSw); go_simp) <;> with_reducible rfl)
            case' rest59 => try simp only [List.getElem_toArray, List.getElem_cons_zero, List.getElem_cons_succ, Act.put, List.setIfInBounds_toArray, List.set_cons_zero, List.set_cons_succ]
            refine wpAnyH_take (i := 3) (oi := _) (v := ?v60) rfl (by kernel_rfl) (by kernel_rfl) (by kernel_rfl) (fun _ _ _ h => h) (Or.inl ⟨by rfl, ?hy60⟩) (by assumption) ?rest60
            case hy60 => ((intro w hSw; (try dsimp only at hSw); go_simp) <;> with_reducible rfl)
            case' rest60 => try simp only [List.getElem_toArray, List.getElem_cons_zero, List.getElem_cons_succ, Act.put, List.setIfInBounds_toArray, List.set_cons_zero, List.set_cons_succ]
            refine wpAnyH_take (i := 6) (oi := _) (v := ?v61) rfl (by kernel_rfl) (by kernel_rfl) (by kernel_rfl) (fun _ _ _ h => h) (Or.inl ⟨by rfl, ?hy61⟩) (by assumption) ?rest61
            case hy61 => ((intro w hSw; (try dsimp only at hSw); go_simp) <;> with_reducible rfl)
            case' rest61 => try simp only [List.getElem_toArray, List.getElem_cons_zero, List.getElem_cons_succ, Act.put, List.setIfInBounds_toArray, List.set_cons_zero, List.set_cons_succ]
            refine wpAnyH_take (i := 7) (oi := _) (v := ?v62) rfl (by kernel_rfl) (by kernel_rfl) (by kernel_rfl) (fun _ _ _ h => h) (Or.inl ⟨by rfl, ?hy62⟩) (by assumption) ?rest62
            case hy62 => ((intro w hSw; (try dsimp only at hSw); go_simp) <;> with_reducible rfl)
            case' rest62 => try simp only [List.getElem_toArray, List.getElem_cons_zero, List.getElem_cons_succ, Act.put, List.setIfInBounds_toArray, List.set_cons_zero, List.set_cons_succ]
            refine wpAnyH_ready (rs := [4]) (by kernel_rfl) (by simp) ?_
            refine AllReadyH.cons (o := _) rfl (fun K hK => ?_) AllReadyH.nil
            go_simp
            refine (HL.out A2 n2 c2 _ hOX.hn (hOX.drew.below hb3).sl (by first | rfl | trivial)).mono ?_
            rintro e w4 ⟨g4, rfl, hO4, hb4⟩
            try dsimp only
            have t1 := str_b 8 hO4.hn hO4.sl
            by_cases heq : L = b
            case pos =>
              rw [heq, ← HS2.out] at t1
              refine hK.out _ _ ?hS65 (fun hHeld => ?rest65)
              case hS65 => ((try dsimp only); (((try go_split_ands); refine sn_of ?_; repeat' (first | with_reducible assumption | with_reducible exact Below.refl _ _ | with_reducible apply below_alloc | with_reducible apply below_drew1 | with_reducible apply below_drewN | (with_reducible apply below_step; with_reducible assumption) | (with_reducible apply below_sg2; (first | exact Nat.le_refl _ | (simp; done) | omega))))))
              case' rest65 => (clear hK K; try simp only [List.getElem_toArray, List.getElem_cons_zero, List.getElem_cons_succ, Act.put, List.setIfInBounds_toArray, List.set_cons_zero, List.set_cons_succ])
              refine wpAnyH_ready (rs := [5]) (by kernel_rfl) (by simp) ?_
              refine AllReadyH.cons (o := _) rfl (fun K hK => ?_) AllReadyH.nil
              go_simp
              refine hK.out _ _ ?hS68 (fun hHeld => ?rest68)
              case hS68 => ((try dsimp only); (((try go_split_ands); refine sn_of ?_; repeat' (first | with_reducible assumption | with_reducible exact Below.refl _ _ | with_reducible apply below_alloc | with_reducible apply below_drew1 | with_reducible apply below_drewN | (with_reducible apply below_step; with_reducible assumption) | (with_reducible apply below_sg2; (first | exact Nat.le_refl _ | (simp; done) | omega))))))
              case' rest68 => (clear hK K; try simp only [List.getElem_toArray, List.getElem_cons_zero, List.getElem_cons_succ, Act.put, List.setIfInBounds_toArray, List.set_cons_zero, List.set_cons_succ])
              refine wpAnyH_take (i := 8) (oi := _) (v := ?v69) rfl (by kernel_rfl) (by kernel_rfl) (by kernel_rfl) (fun _ _ _ h => h) (Or.inl ⟨by rfl, ?hy69⟩) (by assumption) ?rest69
              case hy69 => ((intro w hSw; (try dsimp only at hSw); go_simp) <;> with_reducible rfl)
              case' rest69 => try simp only [List.getElem_toArray, List.getElem_cons_zero, List.getElem_cons_succ, Act.put, List.setIfInBounds_toArray, List.set_cons_zero, List.set_cons_succ]
              refine wpAnyH_take (i := 9) (oi := _) (v := ?v70) rfl (by kernel_rfl) (by kernel_rfl) (by kernel_rfl) (fun _ _ _ h => h) (Or.inl ⟨by rfl, ?hy70⟩) (by assumption) ?rest70
              case hy70 => ((intro w hSw; (try dsimp only at hSw); go_simp) <;> with_reducible rfl)
              case' rest70 => try simp only [List.getElem_toArray, List.getElem_cons_zero, List.getElem_cons_succ, Act.put, List.setIfInBounds_toArray, List.set_cons_zero, List.set_cons_succ]
              refine wpAnyH_done (by kernel_rfl) ?_ _
              have hEnd := hHeld.2
              repeat (clear hHeld)
              have hm := HOK.out (by rw [HHIT.out, decide_eq_true heq]; rfl)
              have HM := hide hm
              clear hm heq t1 t2 hO4
              have qmE := qm.below hEnd lm
              have qrE := qrX.below hEnd lrX
              have hOE := hOX.below hEnd
              have hbE := below_step hEnd hbX
              clear hEnd
              clear qm_c0 qm_f0 qm_c1 qm_f1 qm_c2 qm_f2 qm_c3 qm_f3 qm_c4 qm_f4 qm_c5 qm_f5 qm_c6 qm_f6 qm_c7 qm_f7 qm_c8 qm_f8 qm_c9 qm_f9 qm_c10 qm_f10 qm_c11 qm_f11 qm_c12 qm_f12 qm_c13 qm_f13
              clear qm
              simp only [msV, msZ] at qrE
              have qmE_c0 := qmE.cell 0 rfl
              have qmE_f0 := qmE.frozen 0
              have qmE_c1 := qmE.cell 1 rfl
              have qmE_f1 := qmE.frozen 1
              have qmE_c2 := qmE.cell 2 rfl
              have qmE_f2 := qmE.frozen 2
              have qmE_c3 := qmE.cell 3 rfl
              have qmE_f3 := qmE.frozen 3
              have qmE_c4 := qmE.cell 4 rfl
              have qmE_f4 := qmE.frozen 4
              have qmE_c5 := qmE.cell 5 rfl
              have qmE_f5 := qmE.frozen 5
              have qmE_c6 := qmE.cell 6 rfl
              have qmE_f6 := qmE.frozen 6
              have qmE_c7 := qmE.cell 7 rfl
              have qmE_f7 := qmE.frozen 7
              have qmE_c8 := qmE.cell 8 rfl
              have qmE_f8 := qmE.frozen 8
              have qmE_c9 := qmE.cell 9 rfl
              have qmE_f9 := qmE.frozen 9
              have qmE_c10 := qmE.cell 10 rfl
              have qmE_f10 := qmE.frozen 10
              have qmE_c11 := qmE.cell 11 rfl
              have qmE_f11 := qmE.frozen 11
              have qmE_c12 := qmE.cell 12 rfl
              have qmE_f12 := qmE.frozen 12
              have qmE_c13 := qmE.cell 13 rfl
              have qmE_f13 := qmE.frozen 13
              have qrE_c0 := qrE.cell 0 rfl
              have qrE_f0 := qrE.frozen 0
              have qrE_c1 := qrE.cell 1 rfl
              have qrE_f1 := qrE.frozen 1
              have qrE_c2 := qrE.cell 2 rfl
              have qrE_f2 := qrE.frozen 2
              have qrE_c3 := qrE.cell 3 rfl
              have qrE_f3 := qrE.frozen 3
              have qrE_c4 := qrE.cell 4 rfl
              have qrE_f4 := qrE.frozen 4
              have qrE_c5 := qrE.cell 5 rfl
              have qrE_f5 := qrE.frozen 5
              have qrE_c6 := qrE.cell 6 rfl
              have qrE_f6 := qrE.frozen 6
              have qrE_c7 := qrE.cell 7 rfl
              have qrE_f7 := qrE.frozen 7
              have qrE_c8 := qrE.cell 8 rfl
              have qrE_f8 := qrE.frozen 8
              have qrE_c9 := qrE.cell 9 rfl
              have qrE_f9 := qrE.frozen 9
              have qrE_c10 := qrE.cell 10 rfl
              have qrE_f10 := qrE.frozen 10
              have qrE_c11 := qrE.cell 11 rfl
              have qrE_f11 := qrE.frozen 11
              have qrE_c12 := qrE.cell 12 rfl
              have qrE_f12 := qrE.frozen 12
              have qrE_c13 := qrE.cell 13 rfl
              have qrE_f13 := qrE.frozen 13
              go_wp2_with fail
              refine bodyPost_ret (v := .tuple #[.agg #[.int .i64 kind, .int .i64 ix, .int .i64 sub, .bool tg, .bool la, .bool cr, .bool sz, .int .u32 (size : Nat), .int .u32 (code : Nat), .slice A2 n2 c2, .int .i64 sq, .int .i64 bl, .int .i64 em, .int .u16 (sum : Nat)], .int .i64 0]) (by simp [results, Try.results70, go_sem, qrE_c0, qrE_f0, qrE_c1, qrE_f1, qrE_c2, qrE_f2, qrE_c3, qrE_f3, qrE_c4, qrE_f4, qrE_c5, qrE_f5, qrE_c6, qrE_f6, qrE_c7, qrE_f7, qrE_c8, qrE_f8, qrE_c9, qrE_f9, qrE_c10, qrE_f10, qrE_c11, qrE_f11, qrE_c12, qrE_f12, qrE_c13, qrE_f13]) rfl (HE.out _ A2 n2 c2 _ _ HM.out rfl ?_ ?_)
              · exact (own_row14 hOE lr _ _ _ _ _ _ _ _ _ _ _ _ _ _).mono hbr.size
              · repeat' (first | with_reducible assumption | with_reducible exact Below.refl _ _ | with_reducible apply below_alloc | with_reducible apply below_drew1 | with_reducible apply below_drewN | (with_reducible apply below_step; with_reducible assumption) | (with_reducible apply below_sg2; (first | exact Nat.le_refl _ | (simp; done) | omega)))
            case neg =>
              have HH : Hid (hitB j b = false) := hide (by rw [HHIT.out, decide_eq_false heq, Bool.and_false])
              obtain ⟨s1, hs1⟩ : ∃ s : ByteArray, s = ⟨L.toArray⟩ := ⟨_, rfl⟩
              have hx : (s1.toList == s2.toList) = false := by
                rw [beq_eq_false_iff_ne, hs1, HS2.out]
                intro h
                exact heq (by simpa using h)
              rw [← hs1] at t1
              clear heq hs1
              refine hK.out _ _ ?hS72 (fun hHeld => ?rest72)
              case hS72 => ((try dsimp only); (((try go_split_ands); refine sn_of ?_; repeat' (first | with_reducible assumption | with_reducible exact Below.refl _ _ | with_reducible apply below_alloc | with_reducible apply below_drew1 | with_reducible apply below_drewN | (with_reducible apply below_step; with_reducible assumption) | (with_reducible apply below_sg2; (first | exact Nat.le_refl _ | (simp; done) | omega))))))
              case' rest72 => (clear hK K; try simp only [List.getElem_toArray, List.getElem_cons_zero, List.getElem_cons_succ, Act.put, List.setIfInBounds_toArray, List.set_cons_zero, List.set_cons_succ])
              refine wpAnyH_ready (rs := [5]) (by kernel_rfl) (by simp) ?_
              refine AllReadyH.cons (o := _) rfl (fun K hK => ?_) AllReadyH.nil
              go_simp
              refine hK.out _ _ ?hS75 (fun hHeld => ?rest75)
              case hS75 => ((try dsimp only); (((try go_split_ands); refine sn_of ?_; repeat' (first | with_reducible assumption | with_reducible exact Below.refl _ _ | with_reducible apply below_alloc | with_reducible apply below_drew1 | with_reducible apply below_drewN | (with_reducible apply below_step; with_reducible assumption) | (with_reducible apply below_sg2; (first | exact Nat.le_refl _ | (simp; done) | omega))))))
              case' rest75 => (clear hK K; try simp only [List.getElem_toArray, List.getElem_cons_zero, List.getElem_cons_succ, Act.put, List.setIfInBounds_toArray, List.set_cons_zero, List.set_cons_succ])
              refine wpAnyH_take (i := 8) (oi := _) (v := ?v76) rfl (by kernel_rfl) (by kernel_rfl) (by kernel_rfl) (fun _ _ _ h => h) (Or.inl ⟨by rfl, ?hy76⟩) (by assumption) ?rest76
              case hy76 => ((intro w hSw; (try dsimp only at hSw); go_simp) <;> with_reducible rfl)
              case' rest76 => try simp only [List.getElem_toArray, List.getElem_cons_zero, List.getElem_cons_succ, Act.put, List.setIfInBounds_toArray, List.set_cons_zero, List.set_cons_succ]
              refine wpAnyH_take (i := 9) (oi := _) (v := ?v77) rfl (by kernel_rfl) (by kernel_rfl) (by kernel_rfl) (fun _ _ _ h => h) (Or.inl ⟨by rfl, ?hy77⟩) (by assumption) ?rest77
              case hy77 => ((intro w hSw; (try dsimp only at hSw); go_simp) <;> with_reducible rfl)
              case' rest77 => try simp only [List.getElem_toArray, List.getElem_cons_zero, List.getElem_cons_succ, Act.put, List.setIfInBounds_toArray, List.set_cons_zero, List.set_cons_succ]
              refine wpAnyH_done (by kernel_rfl) ?_ _
              have hEnd := hHeld.2
              repeat (clear hHeld)
              clear t1 t2 hO4
              have qrE := qrX.below hEnd lrX
              have hbE := below_step hEnd hbX
              clear hEnd
              clear qm_c0 qm_f0 qm_c1 qm_f1 qm_c2 qm_f2 qm_c3 qm_f3 qm_c4 qm_f4 qm_c5 qm_f5 qm_c6 qm_f6 qm_c7 qm_f7 qm_c8 qm_f8 qm_c9 qm_f9 qm_c10 qm_f10 qm_c11 qm_f11 qm_c12 qm_f12 qm_c13 qm_f13
              clear qm
              go_wp2_with fail
              go_roundw
              case rel => exact ⟨j + 1, t, by omega, HJ.out, by first | rfl | go_num, by rw [HOF.out, HT.out, ofM_step' _ _ _ HH.out], hbE, qrE⟩
              case measure => simp [intOf]; omega
end
section
open Go.RowKit
set_option maxRecDepth 100000
set_option maxHeartbeats 2000000

theorem rsd_of (ks : List Int) (A : Option Addr) (n c : Nat) (lo hi : Int) (ab : Bool) (b : List UInt8) (w : World) (hn : n = b.length) (hc : n ≤ c) (hs : Sl w A (b.map bv)) (hks : ks = upK lo ab hi.toNat 1) (h0 : 0 ≤ hi) (h21 : hi ≤ 21) (l0 : 0 ≤ lo) (l21 : lo ≤ 30) :
    Calls Try.prog 70 #[.slice A n c, .int .i64 lo, .int .i64 hi, .bool ab] w (ReadR ks b w) := by
  by_cases h8 : b.length = 8
  · obtain rfl : n = 8 := by omega
    exact rsd_of8 ks A c lo hi ab b w h8 hc hs hks h0 h21 l0 l21
  · exact rsd_of_len ks A n c lo hi ab b w hn h8
theorem rsd_request (A : Option Addr) (n c : Nat) (b : List UInt8) (w : World) (hn : n = b.length) (hc : n ≤ c) (hs : Sl w A (b.map bv)) :
    Calls Try.prog 40 #[.slice A n c] w (ReadR reqK b w) := by
  have HE : Hid (∀ A' n' c' w', OwnB w' w.heap.size A' n' c' (resM reqK b).data → Below w.heap.size w w' → ReadR reqK b w (.returned (.tuple #[.agg (msV (resM reqK b) A' n' c'), .int .i64 (errI reqK b)])) w') := hide (fun A' n' c' w' h1 h2 => ⟨A', n', c', rfl, h1, h2⟩)
  obtain ⟨P, hP⟩ : ∃ P, P = ReadR reqK b w := ⟨_, rfl⟩
  rw [← hP] at HE ⊢
  clear hP
  have HB := hide (fun W h1 => rsd_of reqK A n c 1 11 true b W hn hc h1 (by decide) (by decide) (by decide) (by decide) (by decide))
  have q0 := blk_one w 43 #[.int .i64 0, .int .i64 0, .int .i64 0, .bool false, .bool false, .bool false, .bool false, .int .u32 0, .int .u32 0, .slice none 0 0, .int .i64 0, .int .i64 0, .int .i64 0, .int .u16 0]
  have hs1 := hs.alloc (.cells #[.int .i64 0, .int .i64 0, .int .i64 0, .bool false, .bool false, .bool false, .bool false, .int .u32 0, .int .u32 0, .slice none 0 0, .int .i64 0, .int .i64 0, .int .i64 0, .int .u16 0] 43)
  clear hn hc
  go_enter Try.func40, Try.ntmps40
  go_wp2_with fail
  have lq := q0.lt
  have hbw : Below w.heap.size w (w.alloc (.cells #[.int .i64 0, .int .i64 0, .int .i64 0, .bool false, .bool false, .bool false, .bool false, .int .u32 0, .int .u32 0, .slice none 0 0, .int .i64 0, .int .i64 0, .int .i64 0, .int .u16 0] 43)) := (by repeat' (first | with_reducible assumption | with_reducible exact Below.refl _ _ | with_reducible apply below_alloc | with_reducible apply below_drew1 | with_reducible apply below_drewN | (with_reducible apply below_step; with_reducible assumption) | (with_reducible apply below_sg2; (first | exact Nat.le_refl _ | (simp; done) | omega))))
  have hsz : w.heap.size ≤ (w.alloc (.cells #[.int .i64 0, .int .i64 0, .int .i64 0, .bool false, .bool false, .bool false, .bool false, .int .u32 0, .int .u32 0, .slice none 0 0, .int .i64 0, .int .i64 0, .int .i64 0, .int .u16 0] 43)).heap.size := hbw.size
  generalize w.alloc (.cells #[.int .i64 0, .int .i64 0, .int .i64 0, .bool false, .bool false, .bool false, .bool false, .int .u32 0, .int .u32 0, .slice none 0 0, .int .i64 0, .int .i64 0, .int .i64 0, .int .u16 0] 43) = W at *
  refine (HB.out W hs1).mono ?_
  rintro e w2 ⟨A2, n2, c2, rfl, hO2, hb2⟩
  generalize resM reqK b = N at *
  generalize errI reqK b = er at *
  replace hbw := below_step hb2 hbw
  have qr := q0.below hb2 lq
  obtain ⟨kind, ix, sub, tg, la, cr, sz, size, code, data, sq, bl, em, sum⟩ := N
  simp only [msV] at hO2 HE ⊢
  have qr_c0 := qr.cell 0 rfl
  have qr_f0 := qr.frozen 0
  have qr_c1 := qr.cell 1 rfl
  have qr_f1 := qr.frozen 1
  have qr_c2 := qr.cell 2 rfl
  have qr_f2 := qr.frozen 2
  have qr_c3 := qr.cell 3 rfl
  have qr_f3 := qr.frozen 3
  have qr_c4 := qr.cell 4 rfl
  have qr_f4 := qr.frozen 4
  have qr_c5 := qr.cell 5 rfl
  have qr_f5 := qr.frozen 5
  have qr_c6 := qr.cell 6 rfl
  have qr_f6 := qr.frozen 6
  have qr_c7 := qr.cell 7 rfl
  have qr_f7 := qr.frozen 7
  have qr_c8 := qr.cell 8 rfl
  have qr_f8 := qr.frozen 8
  have qr_c9 := qr.cell 9 rfl
  have qr_f9 := qr.frozen 9
  have qr_c10 := qr.cell 10 rfl
  have qr_f10 := qr.frozen 10
  have qr_c11 := qr.cell 11 rfl
  have qr_f11 := qr.frozen 11
  have qr_c12 := qr.cell 12 rfl
  have qr_f12 := qr.frozen 12
  have qr_c13 := qr.cell 13 rfl
  have qr_f13 := qr.frozen 13
  clear q0 hs1
  go_wp2_with fail
  refine bodyPost_ret (v := .tuple #[.agg #[.int .i64 kind, .int .i64 ix, .int .i64 sub, .bool tg, .bool la, .bool cr, .bool sz, .int .u32 (size : Nat), .int .u32 (code : Nat), .slice A2 n2 c2, .int .i64 sq, .int .i64 bl, .int .i64 em, .int .u16 (sum : Nat)], .int .i64 er]) (by simp [results, Try.results40, go_sem, qr_c0, qr_f0, qr_c1, qr_f1, qr_c2, qr_f2, qr_c3, qr_f3, qr_c4, qr_f4, qr_c5, qr_f5, qr_c6, qr_f6, qr_c7, qr_f7, qr_c8, qr_f8, qr_c9, qr_f9, qr_c10, qr_f10, qr_c11, qr_f11, qr_c12, qr_f12, qr_c13, qr_f13]) rfl (HE.out A2 n2 c2 _ ?_ ?_)
  · exact (own_row14 hO2 lq _ _ _ _ _ _ _ _ _ _ _ _ _ _).mono hsz
  · repeat' (first | with_reducible assumption | with_reducible exact Below.refl _ _ | with_reducible apply below_alloc | with_reducible apply below_drew1 | with_reducible apply below_drewN | (with_reducible apply below_step; with_reducible assumption) | (with_reducible apply below_sg2; (first | exact Nat.le_refl _ | (simp; done) | omega)))
theorem rsd_answer (A : Option Addr) (n c : Nat) (b : List UInt8) (w : World) (hn : n = b.length) (hc : n ≤ c) (hs : Sl w A (b.map bv)) :
    Calls Try.prog 41 #[.slice A n c] w (ReadR ansK b w) := by
  have HE : Hid (∀ A' n' c' w', OwnB w' w.heap.size A' n' c' (resM ansK b).data → Below w.heap.size w w' → ReadR ansK b w (.returned (.tuple #[.agg (msV (resM ansK b) A' n' c'), .int .i64 (errI ansK b)])) w') := hide (fun A' n' c' w' h1 h2 => ⟨A', n', c', rfl, h1, h2⟩)
  obtain ⟨P, hP⟩ : ∃ P, P = ReadR ansK b w := ⟨_, rfl⟩
  rw [← hP] at HE ⊢
  clear hP
  have HB := hide (fun W h1 => rsd_of ansK A n c 12 20 true b W hn hc h1 (by decide) (by decide) (by decide) (by decide) (by decide))
  have q0 := blk_one w 43 #[.int .i64 0, .int .i64 0, .int .i64 0, .bool false, .bool false, .bool false, .bool false, .int .u32 0, .int .u32 0, .slice none 0 0, .int .i64 0, .int .i64 0, .int .i64 0, .int .u16 0]
  have hs1 := hs.alloc (.cells #[.int .i64 0, .int .i64 0, .int .i64 0, .bool false, .bool false, .bool false, .bool false, .int .u32 0, .int .u32 0, .slice none 0 0, .int .i64 0, .int .i64 0, .int .i64 0, .int .u16 0] 43)
  clear hn hc
  go_enter Try.func41, Try.ntmps41
  go_wp2_with fail
  have lq := q0.lt
  have hbw : Below w.heap.size w (w.alloc (.cells #[.int .i64 0, .int .i64 0, .int .i64 0, .bool false, .bool false, .bool false, .bool false, .int .u32 0, .int .u32 0, .slice none 0 0, .int .i64 0, .int .i64 0, .int .i64 0, .int .u16 0] 43)) := (by repeat' (first | with_reducible assumption | with_reducible exact Below.refl _ _ | with_reducible apply below_alloc | with_reducible apply below_drew1 | with_reducible apply below_drewN | (with_reducible apply below_step; with_reducible assumption) | (with_reducible apply below_sg2; (first | exact Nat.le_refl _ | (simp; done) | omega))))
  have hsz : w.heap.size ≤ (w.alloc (.cells #[.int .i64 0, .int .i64 0, .int .i64 0, .bool false, .bool false, .bool false, .bool false, .int .u32 0, .int .u32 0, .slice none 0 0, .int .i64 0, .int .i64 0, .int .i64 0, .int .u16 0] 43)).heap.size := hbw.size
  generalize w.alloc (.cells #[.int .i64 0, .int .i64 0, .int .i64 0, .bool false, .bool false, .bool false, .bool false, .int .u32 0, .int .u32 0, .slice none 0 0, .int .i64 0, .int .i64 0, .int .i64 0, .int .u16 0] 43) = W at *
  refine (HB.out W hs1).mono ?_
  rintro e w2 ⟨A2, n2, c2, rfl, hO2, hb2⟩
  generalize resM ansK b = N at *
  generalize errI ansK b = er at *
  replace hbw := below_step hb2 hbw
  have qr := q0.below hb2 lq
  obtain ⟨kind, ix, sub, tg, la, cr, sz, size, code, data, sq, bl, em, sum⟩ := N
  simp only [msV] at hO2 HE ⊢
  have qr_c0 := qr.cell 0 rfl
  have qr_f0 := qr.frozen 0
  have qr_c1 := qr.cell 1 rfl
  have qr_f1 := qr.frozen 1
  have qr_c2 := qr.cell 2 rfl
  have qr_f2 := qr.frozen 2
  have qr_c3 := qr.cell 3 rfl
  have qr_f3 := qr.frozen 3
  have qr_c4 := qr.cell 4 rfl
  have qr_f4 := qr.frozen 4
  have qr_c5 := qr.cell 5 rfl
  have qr_f5 := qr.frozen 5
  have qr_c6 := qr.cell 6 rfl
  have qr_f6 := qr.frozen 6
  have qr_c7 := qr.cell 7 rfl
  have qr_f7 := qr.frozen 7
  have qr_c8 := qr.cell 8 rfl
  have qr_f8 := qr.frozen 8
  have qr_c9 := qr.cell 9 rfl
  have qr_f9 := qr.frozen 9
  have qr_c10 := qr.cell 10 rfl
  have qr_f10 := qr.frozen 10
  have qr_c11 := qr.cell 11 rfl
  have qr_f11 := qr.frozen 11
  have qr_c12 := qr.cell 12 rfl
  have qr_f12 := qr.frozen 12
  have qr_c13 := qr.cell 13 rfl
  have qr_f13 := qr.frozen 13
  clear q0 hs1
  go_wp2_with fail
  refine bodyPost_ret (v := .tuple #[.agg #[.int .i64 kind, .int .i64 ix, .int .i64 sub, .bool tg, .bool la, .bool cr, .bool sz, .int .u32 (size : Nat), .int .u32 (code : Nat), .slice A2 n2 c2, .int .i64 sq, .int .i64 bl, .int .i64 em, .int .u16 (sum : Nat)], .int .i64 er]) (by simp [results, Try.results41, go_sem, qr_c0, qr_f0, qr_c1, qr_f1, qr_c2, qr_f2, qr_c3, qr_f3, qr_c4, qr_f4, qr_c5, qr_f5, qr_c6, qr_f6, qr_c7, qr_f7, qr_c8, qr_f8, qr_c9, qr_f9, qr_c10, qr_f10, qr_c11, qr_f11, qr_c12, qr_f12, qr_c13, qr_f13]) rfl (HE.out A2 n2 c2 _ ?_ ?_)
  · exact (own_row14 hO2 lq _ _ _ _ _ _ _ _ _ _ _ _ _ _).mono hsz
  · repeat' (first | with_reducible assumption | with_reducible exact Below.refl _ _ | with_reducible apply below_alloc | with_reducible apply below_drew1 | with_reducible apply below_drewN | (with_reducible apply below_step; with_reducible assumption) | (with_reducible apply below_sg2; (first | exact Nat.le_refl _ | (simp; done) | omega)))
theorem rsd_segment (A : Option Addr) (n c : Nat) (b : List UInt8) (w : World) (hn : n = b.length) (hc : n ≤ c) (hs : Sl w A (b.map bv)) :
    Calls Try.prog 42 #[.slice A n c] w (ReadR segK b w) := by
  have HE : Hid (∀ A' n' c' w', OwnB w' w.heap.size A' n' c' (resM segK b).data → Below w.heap.size w w' → ReadR segK b w (.returned (.tuple #[.agg (msV (resM segK b) A' n' c'), .int .i64 (errI segK b)])) w') := hide (fun A' n' c' w' h1 h2 => ⟨A', n', c', rfl, h1, h2⟩)
  obtain ⟨P, hP⟩ : ∃ P, P = ReadR segK b w := ⟨_, rfl⟩
  rw [← hP] at HE ⊢
  clear hP
  have HB := hide (fun W h1 => rsd_of segK A n c 21 21 false b W hn hc h1 (by decide) (by decide) (by decide) (by decide) (by decide))
  have q0 := blk_one w 43 #[.int .i64 0, .int .i64 0, .int .i64 0, .bool false, .bool false, .bool false, .bool false, .int .u32 0, .int .u32 0, .slice none 0 0, .int .i64 0, .int .i64 0, .int .i64 0, .int .u16 0]
  have hs1 := hs.alloc (.cells #[.int .i64 0, .int .i64 0, .int .i64 0, .bool false, .bool false, .bool false, .bool false, .int .u32 0, .int .u32 0, .slice none 0 0, .int .i64 0, .int .i64 0, .int .i64 0, .int .u16 0] 43)
  clear hn hc
  go_enter Try.func42, Try.ntmps42
  go_wp2_with fail
  have lq := q0.lt
  have hbw : Below w.heap.size w (w.alloc (.cells #[.int .i64 0, .int .i64 0, .int .i64 0, .bool false, .bool false, .bool false, .bool false, .int .u32 0, .int .u32 0, .slice none 0 0, .int .i64 0, .int .i64 0, .int .i64 0, .int .u16 0] 43)) := (by repeat' (first | with_reducible assumption | with_reducible exact Below.refl _ _ | with_reducible apply below_alloc | with_reducible apply below_drew1 | with_reducible apply below_drewN | (with_reducible apply below_step; with_reducible assumption) | (with_reducible apply below_sg2; (first | exact Nat.le_refl _ | (simp; done) | omega))))
  have hsz : w.heap.size ≤ (w.alloc (.cells #[.int .i64 0, .int .i64 0, .int .i64 0, .bool false, .bool false, .bool false, .bool false, .int .u32 0, .int .u32 0, .slice none 0 0, .int .i64 0, .int .i64 0, .int .i64 0, .int .u16 0] 43)).heap.size := hbw.size
  generalize w.alloc (.cells #[.int .i64 0, .int .i64 0, .int .i64 0, .bool false, .bool false, .bool false, .bool false, .int .u32 0, .int .u32 0, .slice none 0 0, .int .i64 0, .int .i64 0, .int .i64 0, .int .u16 0] 43) = W at *
  refine (HB.out W hs1).mono ?_
  rintro e w2 ⟨A2, n2, c2, rfl, hO2, hb2⟩
  generalize resM segK b = N at *
  generalize errI segK b = er at *
  replace hbw := below_step hb2 hbw
  have qr := q0.below hb2 lq
  obtain ⟨kind, ix, sub, tg, la, cr, sz, size, code, data, sq, bl, em, sum⟩ := N
  simp only [msV] at hO2 HE ⊢
  have qr_c0 := qr.cell 0 rfl
  have qr_f0 := qr.frozen 0
  have qr_c1 := qr.cell 1 rfl
  have qr_f1 := qr.frozen 1
  have qr_c2 := qr.cell 2 rfl
  have qr_f2 := qr.frozen 2
  have qr_c3 := qr.cell 3 rfl
  have qr_f3 := qr.frozen 3
  have qr_c4 := qr.cell 4 rfl
  have qr_f4 := qr.frozen 4
  have qr_c5 := qr.cell 5 rfl
  have qr_f5 := qr.frozen 5
  have qr_c6 := qr.cell 6 rfl
  have qr_f6 := qr.frozen 6
  have qr_c7 := qr.cell 7 rfl
  have qr_f7 := qr.frozen 7
  have qr_c8 := qr.cell 8 rfl
  have qr_f8 := qr.frozen 8
  have qr_c9 := qr.cell 9 rfl
  have qr_f9 := qr.frozen 9
  have qr_c10 := qr.cell 10 rfl
  have qr_f10 := qr.frozen 10
  have qr_c11 := qr.cell 11 rfl
  have qr_f11 := qr.frozen 11
  have qr_c12 := qr.cell 12 rfl
  have qr_f12 := qr.frozen 12
  have qr_c13 := qr.cell 13 rfl
  have qr_f13 := qr.frozen 13
  clear q0 hs1
  go_wp2_with fail
  refine bodyPost_ret (v := .tuple #[.agg #[.int .i64 kind, .int .i64 ix, .int .i64 sub, .bool tg, .bool la, .bool cr, .bool sz, .int .u32 (size : Nat), .int .u32 (code : Nat), .slice A2 n2 c2, .int .i64 sq, .int .i64 bl, .int .i64 em, .int .u16 (sum : Nat)], .int .i64 er]) (by simp [results, Try.results42, go_sem, qr_c0, qr_f0, qr_c1, qr_f1, qr_c2, qr_f2, qr_c3, qr_f3, qr_c4, qr_f4, qr_c5, qr_f5, qr_c6, qr_f6, qr_c7, qr_f7, qr_c8, qr_f8, qr_c9, qr_f9, qr_c10, qr_f10, qr_c11, qr_f11, qr_c12, qr_f12, qr_c13, qr_f13]) rfl (HE.out A2 n2 c2 _ ?_ ?_)
  · exact (own_row14 hO2 lq _ _ _ _ _ _ _ _ _ _ _ _ _ _).mono hsz
  · repeat' (first | with_reducible assumption | with_reducible exact Below.refl _ _ | with_reducible apply below_alloc | with_reducible apply below_drew1 | with_reducible apply below_drewN | (with_reducible apply below_step; with_reducible assumption) | (with_reducible apply below_sg2; (first | exact Nat.le_refl _ | (simp; done) | omega)))
end
end Go.Proofs.Ytcncbmlacphclaa
