/- Package journal: place, Last. -/
import Derived.Test.YtehabbnohoomjaaGreatDoorC01
import Derived.Test.YtehabbnohoomjaaGreatDoorC16
import Derived.Deep.DeepCutAuto
import Derived.Deep.Light
namespace Go.Proofs.YtehabbnohoomjaaGreatDoor
section
set_option linter.unusedVariables false
set_option linter.unusedSimpArgs false
set_option linter.unnecessarySimpa false
open Go.RowKit
set_option maxRecDepth 20000
set_option maxHeartbeats 4000000
section
variable {F : Nat → Prop} {p n c : Nat} {A : Option Addr} {J : JS} {ds : List (Option Addr × Nat)} {q : FP} {S : FS}
theorem roomL_eq (x : LK) (d : Nat) : (x.cl && decide ((0 : Int) ≤ (d : Int) ∧ (d : Int) ≤ 960 ∧ (0 : Int) ≤ (x.en : Int) ∧ (x.en : Int) ≤ 1011 - (d : Int))) = roomL x d := by
  unfold roomL
  congr 1
  rw [Bool.eq_iff_iff]
  simp only [decide_eq_true_eq]
  omega
def PlaceR (r : Nat × Bool × Bool) (w : World) (e : Ending) (w' : World) : Prop := e = .returned (.tuple #[.int .i64 ((r.1 : Nat) : Int), .bool r.2.1, .bool r.2.2]) ∧ Below w.heap.size w w'
theorem jo_place (d : Nat) (w : World) (hD : JD w F p q.p A n c J ds) (hS : FD w q S) (hl : J.looks = looksF S) (hd : d ≤ 2000) :
    Calls Tryz.prog 165 #[.pointer (some ⟨p, 0, none⟩), .int .i64 (d : Nat)] w (PlaceR (placeJ J S d) w) := by
  have hn : n = S.wear.length := by rw [hD.lks.hn, hl, looksF_len]
  have HW := hide (fun W (hb : Below w.heap.size w W) => jo_wears W (hD.below hb) (hS.below hb) hn)
  have HD := hide hD
  have h8 := hD.n8
  have hB := hD.blk
  unfold joC at hB
  have zp := hB.lt
  have HN := hide hn
  have HLL := hide (show (looksF S).length = n by rw [looksF_len, hn])
  obtain ⟨nx, hnx⟩ : ∃ nx, nx = nextL (looksF S) S.wear S.most := ⟨_, rfl⟩
  have HNX := hide (fun W (hb : Below w.heap.size w W) (A1 A2 : Option Addr) (c1 c2 : Nat) (h1 : Sl W A1 ((S.wear.map fun x => ((x : Nat) : Int)).map (Value.int .i64))) (h2 : Sl W A2 ((S.wear.map fun x => S.most - ((x : Nat) : Int)).map (Value.int .i64))) =>
    sec_next A A1 A2 n c n c1 n c2 (kvs J.looks ds) _ _ W (by rw [kvs_len _ _ hD.lks.hd, ← hD.lks.hn]) (by omega) (hD.below hb).lks.slk (by rw [List.length_map]; exact hn) (by omega) h1 (by rw [List.length_map]; exact hn) (by omega) h2)
  have hnk := next_kvs J.looks ds S.wear S.most hD.lks.hd
  rw [← hD.lks.hn] at hnk
  rw [hnk, hl, ← hnx] at HNX
  obtain ⟨hs, hhs⟩ : ∃ hs, hs = J.has := ⟨_, rfl⟩
  obtain ⟨now, hnow⟩ : ∃ x, x = J.now := ⟨_, rfl⟩
  obtain ⟨b, hb⟩ : ∃ b, b = (J.has && roomL (lastJ J) d) := ⟨_, rfl⟩
  have HB := hide hb
  have HHS := hide hhs
  have HNOW := hide hnow
  have HX := hide hnx
  have HL := hide hl
  obtain ⟨R, hR⟩ : ∃ R, R = placeJ J S d := ⟨_, rfl⟩
  have HP : Hid (R = if b = true then (now, false, true) else if nx.2 = true then (nx.1, begunL ((looksF S).getD nx.1 lookZ), true) else (0, false, false)) := hide (by rw [hR]; unfold placeJ; rw [hb, hnx, hnow, hl])
  rw [← hR]
  clear hR
  rw [← hhs, ← hnow] at hB
  have H8 : n ≤ 8 := h8
  obtain ⟨hB_c0, hB_c1, hB_c2, hB_c3, hB_c4⟩ := cel5 hB
  have hB_f := hB.frozen
  clear hD hS hl hn hnk hhs hnow hb hnx
  go_enter Tryz.func165, Tryz.ntmps165
  go_upto_region 1 with fail
  go_cut [30] (fun s wx => s = .bool b ∧ Hid (Below w.heap.size w wx))
  case first =>
    cases hs
    · have hbf : b = false := by rw [HB.out, ← HHS.out]; rfl
      subst hbf
      refine wp_region_held_drew (S := (fun w' => (∀ qA : Addr, qA.block < (w).heap.size → w'.cell? qA = (w).cell? qA) ∧ Below (w).heap.size (w) w')) (by kernel_rfl) ?hS1 (fun hHeld => ?rest1)
      case hS1 => ((try dsimp only); (((try go_split_ands); refine sn_of ?_; repeat' (first | with_reducible assumption | with_reducible exact Below.refl _ _ | with_reducible apply below_alloc | with_reducible apply below_drew1 | with_reducible apply below_drewN | (with_reducible apply below_step; with_reducible assumption) | (with_reducible apply below_sg2; (first | exact Nat.le_refl _ | (simp; done) | omega))))))
      case' rest1 => skip
      refine tkH 0 ?_
      try simp only [PqL, Act.put]
      refine tkH 1 ?_
      try simp only [PqL, Act.put]
      refine tkH 2 ?_
      try simp only [PqL, Act.put]
      refine tkH 3 ?_
      try simp only [PqL, Act.put]
      refine tkH 4 ?_
      try simp only [PqL, Act.put]
      refine tkH 5 ?_
      try simp only [PqL, Act.put]
      refine wpAnyH_take (i := 6) (oi := _) (v := undef) rfl (by kernel_rfl) (by kernel_rfl) (by kernel_rfl) (fun _ _ _ h => h) (Or.inr ⟨by rfl, rfl⟩) (by assumption) ?rest8
      case' rest8 => try simp only [PqL, Act.put]
      refine wpAnyH_take (i := 7) (oi := _) (v := undef) rfl (by kernel_rfl) (by kernel_rfl) (by kernel_rfl) (fun _ _ _ h => h) (Or.inr ⟨by rfl, rfl⟩) (by assumption) ?rest9
      case' rest9 => try simp only [PqL, Act.put]
      refine wpAnyH_take (i := 8) (oi := _) (v := undef) rfl (by kernel_rfl) (by kernel_rfl) (by kernel_rfl) (fun _ _ _ h => h) (Or.inr ⟨by rfl, rfl⟩) (by assumption) ?rest10
      case' rest10 => try simp only [PqL, Act.put]
      refine wpAnyH_take (i := 9) (oi := _) (v := undef) rfl (by kernel_rfl) (by kernel_rfl) (by kernel_rfl) (fun _ _ _ h => h) (Or.inr ⟨by rfl, rfl⟩) (by assumption) ?rest11
      case' rest11 => try simp only [PqL, Act.put]
      refine wpAnyH_take (i := 10) (oi := _) (v := undef) rfl (by kernel_rfl) (by kernel_rfl) (by kernel_rfl) (fun _ _ _ h => h) (Or.inr ⟨by rfl, rfl⟩) (by assumption) ?rest12
      case' rest12 => try simp only [PqL, Act.put]
      refine wpAnyH_take (i := 11) (oi := _) (v := undef) rfl (by kernel_rfl) (by kernel_rfl) (by kernel_rfl) (fun _ _ _ h => h) (Or.inr ⟨by rfl, rfl⟩) (by assumption) ?rest13
      case' rest13 => try simp only [PqL, Act.put]
      refine wpAnyH_take (i := 12) (oi := _) (v := undef) rfl (by kernel_rfl) (by kernel_rfl) (by kernel_rfl) (fun _ _ _ h => h) (Or.inr ⟨by rfl, rfl⟩) (by assumption) ?rest14
      case' rest14 => try simp only [PqL, Act.put]
      refine wpAnyH_take (i := 13) (oi := _) (v := undef) rfl (by kernel_rfl) (by kernel_rfl) (by kernel_rfl) (fun _ _ _ h => h) (Or.inr ⟨by rfl, rfl⟩) (by assumption) ?rest15
      case' rest15 => try simp only [PqL, Act.put]
      refine wpAnyH_take (i := 14) (oi := _) (v := undef) rfl (by kernel_rfl) (by kernel_rfl) (by kernel_rfl) (fun _ _ _ h => h) (Or.inr ⟨by rfl, rfl⟩) (by assumption) ?rest16
      case' rest16 => try simp only [PqL, Act.put]
      refine wpAnyH_take (i := 15) (oi := _) (v := undef) rfl (by kernel_rfl) (by kernel_rfl) (by kernel_rfl) (fun _ _ _ h => h) (Or.inr ⟨by rfl, rfl⟩) (by assumption) ?rest17
      case' rest17 => try simp only [PqL, Act.put]
      refine wpAnyH_take (i := 16) (oi := _) (v := undef) rfl (by kernel_rfl) (by kernel_rfl) (by kernel_rfl) (fun _ _ _ h => h) (Or.inr ⟨by rfl, rfl⟩) (by assumption) ?rest18
      case' rest18 => try simp only [PqL, Act.put]
      refine wpAnyH_take (i := 17) (oi := _) (v := undef) rfl (by kernel_rfl) (by kernel_rfl) (by kernel_rfl) (fun _ _ _ h => h) (Or.inr ⟨by rfl, rfl⟩) (by assumption) ?rest19
      case' rest19 => try simp only [PqL, Act.put]
      refine wpAnyH_take (i := 18) (oi := _) (v := undef) rfl (by kernel_rfl) (by kernel_rfl) (by kernel_rfl) (fun _ _ _ h => h) (Or.inr ⟨by rfl, rfl⟩) (by assumption) ?rest20
      case' rest20 => try simp only [PqL, Act.put]
      refine wpAnyH_take (i := 19) (oi := _) (v := undef) rfl (by kernel_rfl) (by kernel_rfl) (by kernel_rfl) (fun _ _ _ h => h) (Or.inr ⟨by rfl, rfl⟩) (by assumption) ?rest21
      case' rest21 => try simp only [PqL, Act.put]
      refine tkH 20 ?_
      try simp only [PqL, Act.put]
      refine wpAnyH_done (by kernel_rfl) ?_ _
      have hEnd := hHeld.2
      repeat (clear hHeld)
      go_wp2_with fail
      go_meet
      case rel => exact ⟨rfl, hide (below_drew1 (Below.refl _ _))⟩
    · have hla := lastJ_at HD.out HHS.out.symm
      rw [← HNOW.out] at hla
      obtain ⟨g, dd, hA, hg, hdd, hO, hfx, hlt, ⟨c0, c1, c2, c3, c4, c5⟩, hF, hFd⟩ := HD.out.look hla
      obtain ⟨x, hx⟩ : ∃ x, x = lastJ J := ⟨_, rfl⟩
      rw [← hx] at c0 c1 c2 c3 c4 c5
      have HB2 : Hid ((x.cl && decide ((0 : Int) ≤ (d : Int) ∧ (d : Int) ≤ 960 ∧ (0 : Int) ≤ (x.en : Int) ∧ (x.en : Int) ≤ 1011 - (d : Int))) = b) := hide (by rw [roomL_eq, HB.out, ← HHS.out, hx]; rfl)
      obtain ⟨i1, i2, i3⟩ := idx_at hlt
      subst hA
      clear hla hO hfx hx
      refine wp_region_held_drew (S := (fun w' => (∀ qA : Addr, qA.block < (w).heap.size → w'.cell? qA = (w).cell? qA) ∧ Below (w).heap.size (w) w')) (by kernel_rfl) ?hS24 (fun hHeld => ?rest24)
      case hS24 => ((try dsimp only); (((try go_split_ands); refine sn_of ?_; repeat' (first | with_reducible assumption | with_reducible exact Below.refl _ _ | with_reducible apply below_alloc | with_reducible apply below_drew1 | with_reducible apply below_drewN | (with_reducible apply below_step; with_reducible assumption) | (with_reducible apply below_sg2; (first | exact Nat.le_refl _ | (simp; done) | omega))))))
      case' rest24 => skip
      refine tkH 0 ?_
      try simp only [PqL, Act.put]
      refine tkH 1 ?_
      try simp only [PqL, Act.put]
      refine tkH 2 ?_
      try simp only [PqL, Act.put]
      refine tkH 3 ?_
      try simp only [PqL, Act.put]
      refine tkH 4 ?_
      try simp only [PqL, Act.put]
      refine tkH 5 ?_
      try simp only [PqL, Act.put]
      refine tkH 6 ?_
      try simp only [PqL, Act.put]
      refine tkH 7 ?_
      try simp only [PqL, Act.put]
      refine tkH 8 ?_
      try simp only [PqL, Act.put]
      refine tkH 9 ?_
      try simp only [PqL, Act.put]
      refine tkH 10 ?_
      try simp only [PqL, Act.put]
      refine tkH 11 ?_
      try simp only [PqL, Act.put]
      refine tkH 12 ?_
      try simp only [PqL, Act.put]
      refine tkH 13 ?_
      try simp only [PqL, Act.put]
      refine tkH 14 ?_
      try simp only [PqL, Act.put]
      refine tkH 15 ?_
      try simp only [PqL, Act.put]
      refine tkH 16 ?_
      try simp only [PqL, Act.put]
      refine tkH 17 ?_
      try simp only [PqL, Act.put]
      refine tkH 18 ?_
      try simp only [PqL, Act.put]
      refine wpAnyH_ready (rs := [19]) (by kernel_rfl) (by simp) ?_
      refine AllReadyH.cons (o := _) rfl (fun K hK => ?_) AllReadyH.nil
      go_simp
      refine (sec_room x.k x.m dd.1 x.d.length dd.2 (x.cnt : Nat) (x.en : Nat) x.cl (d : Nat) _ (by omega) (by omega)).mono ?_
      rintro e w2 ⟨rfl, hb2⟩
      rw [HB2.out]
      try dsimp only
      refine hK.out _ _ ?hS46 (fun hHeld => ?rest46)
      case hS46 => ((try dsimp only); (((try go_split_ands); refine sn_of ?_; repeat' (first | with_reducible assumption | with_reducible exact Below.refl _ _ | with_reducible apply below_alloc | with_reducible apply below_drew1 | with_reducible apply below_drewN | (with_reducible apply below_step; with_reducible assumption) | (with_reducible apply below_sg2; (first | exact Nat.le_refl _ | (simp; done) | omega))))))
      case' rest46 => (clear hK K; try simp only [PqL, Act.put])
      refine tkH 20 ?_
      try simp only [PqL, Act.put]
      refine wpAnyH_done (by kernel_rfl) ?_ _
      have hEnd := hHeld.2
      repeat (clear hHeld)
      go_wp2_with fail
      go_meet
      case rel => exact ⟨rfl, hide hEnd⟩
  case rest =>
    obtain ⟨rfl, HBx⟩ := hcut
    cases b
    · have e2 := (HBx.out.cell (p := ⟨p, 0, none⟩) zp).trans hB_c0
      go_wp2_with fail
      refine (HW.out wc HBx.out).mono ?_
      rintro e w2 ⟨A1, c1, A2, c2, rfl, h1, h2, hb2⟩
      have hbw2 := below_step hb2 HBx.out
      have HNK := hide (HNX.out w2 hbw2 A1 A2 c1 c2 h1 h2)
      have e3 := (hbw2.cell (p := ⟨p, 0, none⟩) zp).trans hB_c0
      have HB2 := hide hbw2
      clear h1 h2 hb2 hbw2 e2
      go_wp2_with fail
      refine HNK.out.mono ?_
      rintro e w3 ⟨rfl, hb3⟩
      have hbw3 := below_step hb3 HB2.out
      have HB3 := hide hbw3
      clear hb3 hbw3 e3
      obtain ⟨a, ok⟩ := nx
      dsimp only
      cases ok
      · go_wp2_with fail
        go_ret3
        rw [HP.out]
        refine And.intro ?_ (HB3.out)
        rfl
      · have hsp := (nextL_spec (looksF S) S.wear S.most (looksF_len S).symm).1 (by rw [← HX.out])
        rw [← HX.out] at hsp
        have ha := hsp.1
        simp only [] at ha
        rw [HLL.out] at ha
        obtain ⟨x, hx⟩ : ∃ x, (looksF S)[a]? = some x := ⟨_, List.getElem?_eq_getElem (by rw [HLL.out]; exact ha)⟩
        have hgx : (looksF S).getD a lookZ = x := by rw [List.getD_eq_getElem?_getD, hx]; rfl
        have HGX := hide hgx
        obtain ⟨g, dd, hA, hg, hdd, hO, hfx, hlt, ⟨c0, c1', c2', c3, c4, c5⟩, hF, hFd⟩ := (HD.out.below HB3.out).look (by rw [HL.out]; exact hx)
        have e4 := (HB3.out.cell (p := ⟨p, 0, none⟩) zp).trans hB_c0
        obtain ⟨i1, i2, i3⟩ := idx_at hlt
        subst hA
        obtain ⟨xk, xm, xd, xcnt, xen, xcl⟩ := x
        dsimp only at c0 c1' c2' c3 c4 c5
        have q0 := blk_one w3 131 #[.int .i64 xk, .int .u32 (xm : Nat), .slice dd.1 xd.length dd.2, .int .i64 (xcnt : Nat), .int .i64 (xen : Nat), .bool xcl]
        have HB4 := hide (below_alloc HB3.out (.cells #[.int .i64 xk, .int .u32 (xm : Nat), .slice dd.1 xd.length dd.2, .int .i64 (xcnt : Nat), .int .i64 (xen : Nat), .bool xcl] 131))
        obtain ⟨q0_c0, q0_c1, q0_c2, q0_c3, q0_c4, q0_c5⟩ := cel6 q0
        have q0_f := q0.frozen
        clear hsp hx hgx hO hfx q0
        by_cases h0 : 0 < xcnt
        · have b1 : decide ((0 : Int) < (xcnt : Int)) = true := by simp; omega
          have b2 : decide (0 < xcnt) = true := by simp; omega
          have hbe : begunL ⟨xk, xm, xd, xcnt, xen, xcl⟩ = true := by simp [begunL, h0]
          have HBE := hide hbe
          clear h0 hbe
          go_wp2_with fail
          refine wp_region_held_drew (S := (fun w' => (w'.cell? ⟨w3.heap.size, 3, none⟩ = some (.int .i64 (xcnt : Nat)) ∧ w'.cell? ⟨w3.heap.size, 5, none⟩ = some (.bool xcl)) ∧ Below w.heap.size w w')) (by kernel_rfl) ?hS49 (fun hHeld => ?rest49)
          case hS49 => ((try dsimp only); (exact ⟨⟨q0_c3, q0_c5⟩, below_drew1 HB4.out⟩))
          case' rest49 => skip
          refine tkH 0 ?_
          try simp only [PqL, Act.put]
          refine tkH 1 ?_
          try simp only [PqL, Act.put]
          refine tkH 2 ?_
          try simp only [PqL, Act.put]
          refine tkH 3 ?_
          try simp only [PqL, Act.put]
          refine tkH 4 ?_
          try simp only [PqL, Act.put]
          refine wpAnyH_take (i := 5) (oi := _) (v := undef) rfl (by kernel_rfl) (by kernel_rfl) (by kernel_rfl) (fun _ _ _ h => h) (Or.inr ⟨by rfl, rfl⟩) (by assumption) ?rest55
          case' rest55 => try simp only [PqL, Act.put]
          refine wpAnyH_take (i := 6) (oi := _) (v := undef) rfl (by kernel_rfl) (by kernel_rfl) (by kernel_rfl) (fun _ _ _ h => h) (Or.inr ⟨by rfl, rfl⟩) (by assumption) ?rest56
          case' rest56 => try simp only [PqL, Act.put]
          refine wpAnyH_take (i := 7) (oi := _) (v := undef) rfl (by kernel_rfl) (by kernel_rfl) (by kernel_rfl) (fun _ _ _ h => h) (Or.inr ⟨by rfl, rfl⟩) (by assumption) ?rest57
          case' rest57 => try simp only [PqL, Act.put]
          refine tkH 8 ?_
          try simp only [PqL, Act.put]
          refine tkH 9 ?_
          try simp only [PqL, Act.put]
          refine tkH 10 ?_
          try simp only [PqL, Act.put]
          refine tkH 11 ?_
          try simp only [PqL, Act.put]
          refine wpAnyH_done (by kernel_rfl) ?_ _
          have hEnd := hHeld.2
          repeat (clear hHeld)
          go_wp2_with fail
          go_ret3
          rw [HP.out]
          refine And.intro ?_ hEnd
          (simp only [if_true, Bool.false_eq_true, if_false]; rw [HGX.out, HBE.out]; rfl)
        · have b1 : decide ((0 : Int) < (xcnt : Int)) = false := by simp; omega
          have b2 : decide (0 < xcnt) = false := by simp; omega
          have hbe : begunL ⟨xk, xm, xd, xcnt, xen, xcl⟩ = !xcl := by simp [begunL, h0]
          have HBE := hide hbe
          clear h0 hbe
          go_wp2_with fail
          refine wp_region_held_drew (S := (fun w' => (w'.cell? ⟨w3.heap.size, 3, none⟩ = some (.int .i64 (xcnt : Nat)) ∧ w'.cell? ⟨w3.heap.size, 5, none⟩ = some (.bool xcl)) ∧ Below w.heap.size w w')) (by kernel_rfl) ?hS63 (fun hHeld => ?rest63)
          case hS63 => ((try dsimp only); (exact ⟨⟨q0_c3, q0_c5⟩, below_drew1 HB4.out⟩))
          case' rest63 => skip
          refine tkH 0 ?_
          try simp only [PqL, Act.put]
          refine tkH 1 ?_
          try simp only [PqL, Act.put]
          refine tkH 2 ?_
          try simp only [PqL, Act.put]
          refine tkH 3 ?_
          try simp only [PqL, Act.put]
          refine tkH 4 ?_
          try simp only [PqL, Act.put]
          refine tkH 5 ?_
          try simp only [PqL, Act.put]
          refine tkH 6 ?_
          try simp only [PqL, Act.put]
          refine tkH 7 ?_
          try simp only [PqL, Act.put]
          refine tkH 8 ?_
          try simp only [PqL, Act.put]
          refine tkH 9 ?_
          try simp only [PqL, Act.put]
          refine tkH 10 ?_
          try simp only [PqL, Act.put]
          refine tkH 11 ?_
          try simp only [PqL, Act.put]
          refine wpAnyH_done (by kernel_rfl) ?_ _
          have hEnd := hHeld.2
          repeat (clear hHeld)
          go_wp2_with fail
          go_ret3
          rw [HP.out]
          refine And.intro ?_ hEnd
          (simp only [if_true, Bool.false_eq_true, if_false]; rw [HGX.out, HBE.out]; rfl)
    · have e2 := (HBx.out.cell (p := ⟨p, 1, none⟩) zp).trans hB_c1
      go_wp2_with fail
      go_ret3
      rw [HP.out]
      refine And.intro ?_ (HBx.out)
      rfl
end
end
end Go.Proofs.YtehabbnohoomjaaGreatDoor
namespace Go.Proofs.YtehabbnohoomjaaGreatDoor
section
set_option linter.unusedVariables false
set_option linter.unusedSimpArgs false
set_option linter.unnecessarySimpa false
open Go.RowKit
set_option maxRecDepth 20000
set_option maxHeartbeats 4000000

theorem rec_size : (Tryz.prog.info? 92).map (·.size) = some 3 := by kernel_rfl
def rcV (k : Int) (m : Nat) (A : Option Addr) (n c : Nat) : Array Value := #[.int .i64 k, .int .u32 (m : Nat), .slice A n c]
theorem ret_rec_tmp {fn : Func} {p u : Tmp} (h : fn.results = #[.cell p 92, .tmp u]) {a : Act} {w : World} {g : Nat} {k : Int} {m : Nat} {A : Option Addr} {n c : Nat} {R : Ending → World → Prop} (hd : a.defers = []) (hp : a.tmps.getD p undef = .pointer (some ⟨g, 0, none⟩))
    (hB : Blk w g 92 (rcV k m A n c)) (hR : R (.returned (.tuple #[.agg (rcV k m A n c), a.tmps.getD u undef])) w) : bodyPost Tryz.prog fn R .ret a w := by
  refine bodyPost_ret ?_ hd hR
  rw [results_cell_tmp h, hp]
  simp only [asAddr, Sem.run_pure, Result.andThen_ok]
  rw [run_loadVar_row w g _ _ _ _ _ hB Tryz.underlying92 rfl (show _ = some (rcV k m A n c).size from rec_size)]
  rfl
theorem put3_blk {w : World} {g : Nat} {t : TypeId} {l : List Value} (hB : Blk w g t l.toArray) (hl : l.length = 3) (k : Int) (m : Nat) (A : Option Addr) (n c : Nat) :
    Blk (((w.setCell ⟨g, 0, none⟩ (.int .i64 k)).setCell ⟨g, 1, none⟩ (.int .u32 (m : Nat))).setCell ⟨g, 2, none⟩ (.slice A n c)) g t (rcV k m A n c) := by
  have h := blk_setL (blk_setL (blk_setL hB 0 (.int .i64 k)) 1 (.int .u32 (m : Nat))) 2 (.slice A n c)
  have e : ((l.set 0 (.int .i64 k)).set 1 (.int .u32 (m : Nat))).set 2 (.slice A n c) = [.int .i64 k, .int .u32 (m : Nat), .slice A n c] := by
    match l, hl with
    | [_, _, _], _ => rfl
  rw [e] at h
  exact h
theorem put3_only (w : World) (g : Nat) (a b c : Value) : Only (fun k => k = g) w (((w.setCell ⟨g, 0, none⟩ a).setCell ⟨g, 1, none⟩ b).setCell ⟨g, 2, none⟩ c) :=
  Only.set (fun k => k = g) (Only.set (fun k => k = g) (Only.set (fun k => k = g) (Only.refl _ _) rfl _) rfl _) rfl _
/-- the last record -/
def recJ (J : JS) : Int × Nat × List UInt8 := if J.has = true then ((lastJ J).k, (lastJ J).m, (lastJ J).d) else (0, 0, [])
def LastR (r : Int × Nat × List UInt8) (has : Bool) (w : World) (e : Ending) (w' : World) : Prop :=
  ∃ A c, e = .returned (.tuple #[.agg (rcV r.1 r.2.1 A r.2.2.length c), .bool has]) ∧ OwnB w' w.heap.size A r.2.2.length c r.2.2 ∧ Below w.heap.size w w'
theorem jo_Last_no (p : Nat) (w : World) (hc : w.cell? ⟨p, 2, none⟩ = some (.bool false)) : Calls Tryz.prog 42 #[.pointer (some ⟨p, 0, none⟩)] w (LastR (0, 0, []) false w) := by
  have q0 := blk_one w 92 #[.int .i64 0, .int .u32 0, .slice none 0 0]
  have hb0 := below_alloc (Below.refl w.heap.size w) (.cells #[.int .i64 0, .int .u32 0, .slice none 0 0] 92)
  have c2 := (hb0.cell (p := ⟨p, 2, none⟩) (lt_of_cell hc)).trans hc
  have HQ := hide q0
  have HB0 := hide hb0
  obtain ⟨q0_c0, q0_c1, q0_c2⟩ := cel3 q0
  have q0_f := q0.frozen
  clear q0 hb0 hc
  go_enter Tryz.func42, Tryz.ntmps42
  go_wp2_with fail
  refine ret_rec_tmp (k := 0) (m := 0) (A := none) (n := 0) (c := 0) rfl rfl (by rfl) ?_ ?_
  · exact HQ.out
  · exact ⟨none, 0, rfl, OwnB.nil _ _, HB0.out⟩
section
variable {F : Nat → Prop} {p pf n c : Nat} {A : Option Addr} {J : JS} {ds : List (Option Addr × Nat)}
theorem jo_Last (w : World) (hD : JD w F p pf A n c J ds) : Calls Tryz.prog 42 #[.pointer (some ⟨p, 0, none⟩)] w (LastR (recJ J) J.has w) := by
  cases hh : J.has
  · have hr : recJ J = (0, 0, []) := by unfold recJ; rw [hh]; rfl
    rw [hr]
    exact jo_Last_no p w (by have := hD.blk.cell 2 (u := .bool J.has) rfl; rw [hh] at this; exact this)
  · have hr : recJ J = ((lastJ J).k, (lastJ J).m, (lastJ J).d) := by unfold recJ; rw [hh]; rfl
    rw [hr]
    have q0 := blk_one w 92 #[.int .i64 0, .int .u32 0, .slice none 0 0]
    have hb0 := below_alloc (Below.refl w.heap.size w) (.cells #[.int .i64 0, .int .u32 0, .slice none 0 0] 92)
    have HQ := hide q0
    have HB0 := hide hb0
    have hD1 := hD.below hb0
    have p1 := hD1.blk
    unfold joC at p1
    rw [hh] at p1
    obtain ⟨g, dd, hA, hg, hdd, hO, hfx, hlt, ⟨c0, c1, c2, c3, c4, c5⟩, hF, hFd⟩ := hD1.look (lastJ_at hD1 hh)
    obtain ⟨x, hx⟩ : ∃ x, x = lastJ J := ⟨_, rfl⟩
    rw [← hx] at c0 c1 c2 c3 c4 c5 hO hfx ⊢
    obtain ⟨now, hnow⟩ : ∃ x, x = J.now := ⟨_, rfl⟩
    rw [← hnow] at c0 c1 c2 c3 c4 c5 hlt p1
    obtain ⟨i1, i2, i3⟩ := idx_at hlt
    subst hA
    have HO := hide hO
    have hdl := hfx.d
    have zp := p1.lt
    obtain ⟨xk, xm, xd, xcnt, xen, xcl⟩ := x
    dsimp only at c0 c1 c2 c3 c4 c5 HO hdl ⊢
    obtain ⟨p1_c0, p1_c1, p1_c2, p1_c3, p1_c4⟩ := cel5 p1
    have p1_f := p1.frozen
    obtain ⟨q0_c0, q0_c1, q0_c2⟩ := cel3 q0
    have q0_f := q0.frozen
    clear q0 hb0 hD hD1 hO hfx p1 hx hnow hh hr hdd
    simp only [World.size_alloc] at zp hg
    go_enter Tryz.func42, Tryz.ntmps42
    go_wp2_with fail
    refine wp_region_held_drew (S := (fun w' => (∀ qA : Addr, qA.block < (w.alloc (.cells #[.int .i64 0, .int .u32 0, .slice none 0 0] 92)).heap.size → w'.cell? qA = (w.alloc (.cells #[.int .i64 0, .int .u32 0, .slice none 0 0] 92)).cell? qA) ∧ Below (w.alloc (.cells #[.int .i64 0, .int .u32 0, .slice none 0 0] 92)).heap.size (w.alloc (.cells #[.int .i64 0, .int .u32 0, .slice none 0 0] 92)) w')) (by kernel_rfl) ?hS1 (fun hHeld => ?rest1)
    case hS1 => ((try dsimp only); (((try go_split_ands); refine sn_of ?_; repeat' (first | with_reducible assumption | with_reducible exact Below.refl _ _ | with_reducible apply below_alloc | with_reducible apply below_drew1 | with_reducible apply below_drewN | (with_reducible apply below_step; with_reducible assumption) | (with_reducible apply below_sg2; (first | exact Nat.le_refl _ | (simp; done) | omega))))))
    case' rest1 => skip
    refine tkH 0 ?_
    try simp only [PqL, Act.put]
    refine tkH 1 ?_
    try simp only [PqL, Act.put]
    refine tkH 2 ?_
    try simp only [PqL, Act.put]
    refine tkH 3 ?_
    try simp only [PqL, Act.put]
    refine tkH 4 ?_
    try simp only [PqL, Act.put]
    refine tkH 5 ?_
    try simp only [PqL, Act.put]
    refine tkH 6 ?_
    try simp only [PqL, Act.put]
    refine tkH 7 ?_
    try simp only [PqL, Act.put]
    refine tkH 8 ?_
    try simp only [PqL, Act.put]
    refine tkH 9 ?_
    try simp only [PqL, Act.put]
    refine tkH 10 ?_
    try simp only [PqL, Act.put]
    refine tkH 11 ?_
    try simp only [PqL, Act.put]
    refine tkH 12 ?_
    try simp only [PqL, Act.put]
    refine wpAnyH_ready (rs := [13]) (by kernel_rfl) (by simp) ?_
    refine AllReadyH.cons (o := _) rfl (fun K hK => ?_) AllReadyH.nil
    go_simp
    refine hK.out _ _ ?hS17 (fun hHeld => ?rest17)
    case hS17 => ((try dsimp only); (((try go_split_ands); refine sn_of ?_; repeat' (first | with_reducible assumption | with_reducible exact Below.refl _ _ | with_reducible apply below_alloc | with_reducible apply below_drew1 | with_reducible apply below_drewN | (with_reducible apply below_step; with_reducible assumption) | (with_reducible apply below_sg2; (first | exact Nat.le_refl _ | (simp; done) | omega))))))
    case' rest17 => (clear hK K; try simp only [PqL, Act.put])
    refine wpAnyH_ready (rs := [14]) (by kernel_rfl) (by simp) ?_
    refine AllReadyH.cons (o := _) rfl (fun K hK => ?_) AllReadyH.nil
    go_simp
    refine hK.out _ _ ?hS20 (fun hHeld => ?rest20)
    case hS20 => ((try dsimp only); (((try go_split_ands); refine sn_of ?_; repeat' (first | with_reducible assumption | with_reducible exact Below.refl _ _ | with_reducible apply below_alloc | with_reducible apply below_drew1 | with_reducible apply below_drewN | (with_reducible apply below_step; with_reducible assumption) | (with_reducible apply below_sg2; (first | exact Nat.le_refl _ | (simp; done) | omega))))))
    case' rest20 => (clear hK K; try simp only [PqL, Act.put])
    refine wpAnyH_done (by kernel_rfl) ?_ _
    have hEnd := hHeld.2
    repeat (clear hHeld)
    have hk := blk_two w 92 92 #[.int .i64 0, .int .u32 0, .slice none 0 0] #[.int .i64 xk, .int .u32 (xm : Nat), .slice dd.1 xd.length dd.2]
    have HR1 := hide hk.1.drew
    have HR2 := hide hk.2.drew
    have r2 := hk.2.drew
    obtain ⟨r2_c0, r2_c1, r2_c2⟩ := cel3 r2
    have r2_f := r2.frozen
    have hs2 := HO.out.sl.below hEnd
    have HE2 := hide (below_step hEnd HB0.out)
    have hz2 : w.heap.size + 1 + 1 ≤ (((w.alloc (.cells #[.int .i64 0, .int .u32 0, .slice none 0 0] 92)).alloc (.cells #[.int .i64 xk, .int .u32 (xm : Nat), .slice dd.1 xd.length dd.2] 92)).drew).heap.size := by simp
    clear hk r2 hEnd c0 c1 c2 c3 c4 c5 p1_c0 p1_c1 p1_c2 p1_c3 p1_c4 p1_f q0_c0 q0_c1 q0_c2 q0_f
    go_wp2_with (at_builtin; refine app_b _ rfl _ _ rfl (w.heap.size + 1 + 1) none 0 0 [] rfl (OwnB.nil _ _) dd.1 xd.length dd.2 xd rfl rfl hs2 (by omega) hz2 xd.length (by omega) ?_; intro A4 c4 w4 hO4 _ _ hb4; have k2 := HR2.out.below hb4 (by omega); have k1 := HR1.out.below hb4 (by omega); have HK2 := hide k2; have HK1 := hide k1; have HO4 := hide hO4; have HB4 := hide hb4; obtain ⟨k2_c0, k2_c1, k2_c2⟩ := cel3 k2; have k2_f := k2.frozen; obtain ⟨k1_c0, k1_c1, k1_c2⟩ := cel3 k1; have k1_f := k1.frozen; clear k1 k2 hO4 hb4)
    refine ret_rec_tmp (k := xk) (m := xm) (A := A4) (n := xd.length) (c := c4) rfl rfl (by rfl) (put3_blk (HK1.out.far (p := ⟨w.heap.size + 1, 2, none⟩) (by simp) _) rfl xk xm A4 xd.length c4) ?_
    have ho : Only (fun g => g = w.heap.size ∨ g = w.heap.size + 1) w4 ((((w4.setCell ⟨w.heap.size + 1, 2, none⟩ (.slice A4 xd.length c4)).setCell ⟨w.heap.size, 0, none⟩ (.int .i64 xk)).setCell ⟨w.heap.size, 1, none⟩ (.int .u32 (xm : Nat))).setCell ⟨w.heap.size, 2, none⟩ (.slice A4 xd.length c4)) :=
      (Only.set _ (Only.refl _ _) (.inr rfl) _).trans (put3_only _ _ _ _ _) (fun i _ h => .inl h)
    have hbw : Below w.heap.size w w4 := HE2.out.trans (HB4.out.mono (by omega))
    refine ⟨A4, c4, rfl, ⟨rfl, ?_⟩, below_only ho hbw (fun i hi => by omega)⟩
    exact (HO4.out.own.keep (fun g hg hlt _ => ho.block g hlt (by omega))).mono (by omega)
end
end
end Go.Proofs.YtehabbnohoomjaaGreatDoor
