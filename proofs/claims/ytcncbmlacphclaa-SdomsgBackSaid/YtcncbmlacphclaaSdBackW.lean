/- Law SdomsgBack: the walk (printed by wip/tools/gen_backw.py). -/
import Derived.Test.YtcncbmlacphclaaSdW
import Derived.Test.YtcncbmlacphclaaSdC2
import Derived.Test.YtcncbmlacphclaaSdK3
import Derived.Deep.RegionHeld3
namespace Go.Proofs.Ytcncbmlacphclaa
set_option linter.unusedVariables false
set_option linter.unusedSimpArgs false
set_option linter.unnecessarySimpa false
open Go.RowKit
set_option maxRecDepth 100000
set_option maxHeartbeats 4000000

def ReadM (M : Ms) (w : World) (e : Ending) (w' : World) : Prop :=
  ∃ A' n' c', e = .returned (.tuple #[.agg (msV M A' n' c'), .int .i64 0]) ∧ OwnB w' w.heap.size A' n' c' M.data ∧ Below w.heap.size w w'
theorem same_self (M : Ms) : sameB M M = true := by unfold sameB; exact decide_eq_true rfl
theorem sdomsgBack_no (M : Ms) (A : Option Addr) (n c : Nat) (w : World) (hn : n = M.data.length) (hs : Sl w A (M.data.map bv)) (hu1 : M.size ≤ 4294967295) (hu2 : M.code ≤ 4294967295) (hu3 : M.sum ≤ 65535) (hn1000 : n ≤ 1000) (hcan : canB M = false)  :
    Calls Try.prog 9 #[.agg (msV M A n c)] w (TrueB w) := by
  have q0 := blk_one w 43 (msV M A n c)
  have hs1 := hs.alloc (.cells (msV M A n c) 43)
  have hbw := below_alloc (Below.refl w.heap.size w) (.cells (msV M A n c) 43)
  have HGV := hide (fun W => given_20 M A n c W)
  have HB := hide (fun W h => sd_build M A n c W hn h hu1 hu2 hu3)
  unfold BuildM at HB
  rw [hcan] at HB
  simp only [if_true, Bool.false_eq_true, if_false] at HB
  skip
  have HN := hide hn
  have HSM := hide (fun (W : World) (A2 : Option Addr) (n2 c2 : Nat) (h1 : n2 = M.data.length) h2 h3 => rsd_same M M A2 A n2 c2 n c W h1 hn h2 h3)
  rw [same_self] at HSM
  have HTK := hide (fun (W : World) (A2 : Option Addr) (n2 c2 : Nat) => taken_20 M A2 n2 c2 W)
  generalize laidB M = L at *
  clear hs hcan hn
  obtain ⟨kind, ix, sub, tg, la, cr, sz, size, code, data, sq, bl, em, sum⟩ := M
  simp only [msV] at *
  go_enter Try.func9, Try.ntmps9
  have lq := q0.lt
  have q0_c0 := q0.cell 0 rfl
  have q0_f0 := q0.frozen 0
  have q0_c1 := q0.cell 1 rfl
  have q0_f1 := q0.frozen 1
  have q0_c2 := q0.cell 2 rfl
  have q0_f2 := q0.frozen 2
  have q0_c3 := q0.cell 3 rfl
  have q0_f3 := q0.frozen 3
  have q0_c4 := q0.cell 4 rfl
  have q0_f4 := q0.frozen 4
  have q0_c5 := q0.cell 5 rfl
  have q0_f5 := q0.frozen 5
  have q0_c6 := q0.cell 6 rfl
  have q0_f6 := q0.frozen 6
  have q0_c7 := q0.cell 7 rfl
  have q0_f7 := q0.frozen 7
  have q0_c8 := q0.cell 8 rfl
  have q0_f8 := q0.frozen 8
  have q0_c9 := q0.cell 9 rfl
  have q0_f9 := q0.frozen 9
  have q0_c10 := q0.cell 10 rfl
  have q0_f10 := q0.frozen 10
  have q0_c11 := q0.cell 11 rfl
  have q0_f11 := q0.frozen 11
  have q0_c12 := q0.cell 12 rfl
  have q0_f12 := q0.frozen 12
  have q0_c13 := q0.cell 13 rfl
  have q0_f13 := q0.frozen 13
  go_wp2_with fail
  generalize w.alloc (.cells #[.int .i64 kind, .int .i64 ix, .int .i64 sub, .bool tg, .bool la, .bool cr, .bool sz, .int .u32 (size : Nat), .int .u32 (code : Nat), .slice A n c, .int .i64 sq, .int .i64 bl, .int .i64 em, .int .u16 (sum : Nat)] 43) = W1 at *
  refine (HGV.out W1).mono ?_
  rintro e w2 ⟨rfl, hb2⟩
  go_wp2_with fail
  refine (HB.out w2 (hs1.below hb2)).mono ?_
  rintro e w3 ⟨A3, n3, c3, rfl, hO3, hb3⟩
  have hb13 : Below W1.heap.size W1 w3 := below_step hb3 hb2
  have hbw3 := below_step hb13 hbw
  have q3 := q0.below hb13 lq
  have hs3 := hs1.below hb13
  have lq3 := q3.lt
  clear q0_c0 q0_f0 q0_c1 q0_f1 q0_c2 q0_f2 q0_c3 q0_f3 q0_c4 q0_f4 q0_c5 q0_f5 q0_c6 q0_f6 q0_c7 q0_f7 q0_c8 q0_f8 q0_c9 q0_f9 q0_c10 q0_f10 q0_c11 q0_f11 q0_c12 q0_f12 q0_c13 q0_f13
  clear q0 hs1
  have hn3 : n3 = 0 := hO3.hn
  subst hn3
  go_wp2_with fail
  refine (known_20 _).mono ?_
  rintro e w4 ⟨rfl, hb4⟩
  go_wp2_with fail
  go_ret
  exact ⟨rfl, below_step hb4 hbw3⟩
theorem sdomsgBack_i (M : Ms) (A : Option Addr) (n c : Nat) (w : World) (hn : n = M.data.length) (hs : Sl w A (M.data.map bv)) (hu1 : M.size ≤ 4294967295) (hu2 : M.code ≤ 4294967295) (hu3 : M.sum ≤ 65535) (hn1000 : n ≤ 1000) (hcan : canB M = true) (hk : M.kind = 1) :
    Calls Try.prog 9 #[.agg (msV M A n c)] w (TrueB w) := by
  have q0 := blk_one w 43 (msV M A n c)
  have hs1 := hs.alloc (.cells (msV M A n c) 43)
  have hbw := below_alloc (Below.refl w.heap.size w) (.cells (msV M A n c) 43)
  have HGV := hide (fun W => given_20 M A n c W)
  have HB := hide (fun W h => sd_build M A n c W hn h hu1 hu2 hu3)
  unfold BuildM at HB
  rw [hcan] at HB
  simp only [if_true, Bool.false_eq_true, if_false] at HB
  have HReq : Hid (∀ (A : Option Addr) (n c : Nat) (W : World), n = (laidB M).length → n ≤ c → Sl W A ((laidB M).map bv) → Calls Try.prog 37 #[.slice A n c] W (ReadM M W)) := hide (fun A n c W h1 h2 h3 => (by
    have h := sd_request A n c (laidB M) W h1 h2 h3
    unfold ReadR at h
    rw [(res_back reqK M hcan hu1 hu2 hu3 (by rw [hk]; decide) apart_req).1, (res_back reqK M hcan hu1 hu2 hu3 (by rw [hk]; decide) apart_req).2] at h
    exact h))
  have HAns : Hid (∀ (A : Option Addr) (n c : Nat) (W : World), n = (laidB M).length → n ≤ c → Sl W A ((laidB M).map bv) → Calls Try.prog 38 #[.slice A n c] W (ReadM M W)) := hide (fun A n c W h1 h2 h3 => (by
    have h := sd_answer A n c (laidB M) W h1 h2 h3
    unfold ReadR at h
    rw [(res_back ansK M hcan hu1 hu2 hu3 (by rw [hk]; decide) apart_ans).1, (res_back ansK M hcan hu1 hu2 hu3 (by rw [hk]; decide) apart_ans).2] at h
    exact h))
  have HS8 := hide (laid_len M hcan)
  have HN := hide hn
  have HSM := hide (fun (W : World) (A2 : Option Addr) (n2 c2 : Nat) (h1 : n2 = M.data.length) h2 h3 => rsd_same M M A2 A n2 c2 n c W h1 hn h2 h3)
  rw [same_self] at HSM
  have HTK := hide (fun (W : World) (A2 : Option Addr) (n2 c2 : Nat) => taken_20 M A2 n2 c2 W)
  generalize laidB M = L at *
  clear hs hcan hn
  obtain ⟨kind, ix, sub, tg, la, cr, sz, size, code, data, sq, bl, em, sum⟩ := M
  simp only [] at hk
  subst hk
  simp only [msV] at *
  go_enter Try.func9, Try.ntmps9
  have lq := q0.lt
  have q0_c0 := q0.cell 0 rfl
  have q0_f0 := q0.frozen 0
  have q0_c1 := q0.cell 1 rfl
  have q0_f1 := q0.frozen 1
  have q0_c2 := q0.cell 2 rfl
  have q0_f2 := q0.frozen 2
  have q0_c3 := q0.cell 3 rfl
  have q0_f3 := q0.frozen 3
  have q0_c4 := q0.cell 4 rfl
  have q0_f4 := q0.frozen 4
  have q0_c5 := q0.cell 5 rfl
  have q0_f5 := q0.frozen 5
  have q0_c6 := q0.cell 6 rfl
  have q0_f6 := q0.frozen 6
  have q0_c7 := q0.cell 7 rfl
  have q0_f7 := q0.frozen 7
  have q0_c8 := q0.cell 8 rfl
  have q0_f8 := q0.frozen 8
  have q0_c9 := q0.cell 9 rfl
  have q0_f9 := q0.frozen 9
  have q0_c10 := q0.cell 10 rfl
  have q0_f10 := q0.frozen 10
  have q0_c11 := q0.cell 11 rfl
  have q0_f11 := q0.frozen 11
  have q0_c12 := q0.cell 12 rfl
  have q0_f12 := q0.frozen 12
  have q0_c13 := q0.cell 13 rfl
  have q0_f13 := q0.frozen 13
  go_wp2_with fail
  generalize w.alloc (.cells #[.int .i64 1, .int .i64 ix, .int .i64 sub, .bool tg, .bool la, .bool cr, .bool sz, .int .u32 (size : Nat), .int .u32 (code : Nat), .slice A n c, .int .i64 sq, .int .i64 bl, .int .i64 em, .int .u16 (sum : Nat)] 43) = W1 at *
  refine (HGV.out W1).mono ?_
  rintro e w2 ⟨rfl, hb2⟩
  go_wp2_with fail
  refine (HB.out w2 (hs1.below hb2)).mono ?_
  rintro e w3 ⟨A3, n3, c3, rfl, hO3, hb3⟩
  have hb13 : Below W1.heap.size W1 w3 := below_step hb3 hb2
  have hbw3 := below_step hb13 hbw
  have q3 := q0.below hb13 lq
  have hs3 := hs1.below hb13
  have lq3 := q3.lt
  clear q0_c0 q0_f0 q0_c1 q0_f1 q0_c2 q0_f2 q0_c3 q0_f3 q0_c4 q0_f4 q0_c5 q0_f5 q0_c6 q0_f6 q0_c7 q0_f7 q0_c8 q0_f8 q0_c9 q0_f9 q0_c10 q0_f10 q0_c11 q0_f11 q0_c12 q0_f12 q0_c13 q0_f13
  clear q0 hs1
  have hn3 : n3 = 8 := hO3.hn.trans HS8.out
  subst hn3
  have q3_c0 := q3.cell 0 rfl
  have q3_f0 := q3.frozen 0
  have q3_c1 := q3.cell 1 rfl
  have q3_f1 := q3.frozen 1
  have q3_c2 := q3.cell 2 rfl
  have q3_f2 := q3.frozen 2
  have q3_c3 := q3.cell 3 rfl
  have q3_f3 := q3.frozen 3
  have q3_c4 := q3.cell 4 rfl
  have q3_f4 := q3.frozen 4
  have q3_c5 := q3.cell 5 rfl
  have q3_f5 := q3.frozen 5
  have q3_c6 := q3.cell 6 rfl
  have q3_f6 := q3.frozen 6
  have q3_c7 := q3.cell 7 rfl
  have q3_f7 := q3.frozen 7
  have q3_c8 := q3.cell 8 rfl
  have q3_f8 := q3.frozen 8
  have q3_c9 := q3.cell 9 rfl
  have q3_f9 := q3.frozen 9
  have q3_c10 := q3.cell 10 rfl
  have q3_f10 := q3.frozen 10
  have q3_c11 := q3.cell 11 rfl
  have q3_f11 := q3.frozen 11
  have q3_c12 := q3.cell 12 rfl
  have q3_f12 := q3.frozen 12
  have q3_c13 := q3.cell 13 rfl
  have q3_f13 := q3.frozen 13
  go_wp2_with fail
  refine (HReq.out A3 8 c3 _ HS8.out.symm hO3.le hO3.sl).mono ?_
  rintro e v1 ⟨B1, m1, d1, rfl, hP1, hv1⟩
  simp only [msV]
  clear q3_c0 q3_f0 q3_c1 q3_f1 q3_c2 q3_f2 q3_c3 q3_f3 q3_c4 q3_f4 q3_c5 q3_f5 q3_c6 q3_f6 q3_c7 q3_f7 q3_c8 q3_f8 q3_c9 q3_f9 q3_c10 q3_f10 q3_c11 q3_f11 q3_c12 q3_f12 q3_c13 q3_f13
  have qx := Blk.new v1 44 #[.int .i64 1, .int .i64 ix, .int .i64 sub, .bool tg, .bool la, .bool cr, .bool sz, .int .u32 (size : Nat), .int .u32 (code : Nat), .slice B1 m1 d1, .int .i64 sq, .int .i64 bl, .int .i64 em, .int .u16 (sum : Nat)]
  have hg1 : Below w3.heap.size w3 (v1.alloc (.cells #[.int .i64 1, .int .i64 ix, .int .i64 sub, .bool tg, .bool la, .bool cr, .bool sz, .int .u32 (size : Nat), .int .u32 (code : Nat), .slice B1 m1 d1, .int .i64 sq, .int .i64 bl, .int .i64 em, .int .u16 (sum : Nat)] 44)) := below_alloc (below_step hv1 (Below.refl _ _)) _
  have hP1' := hP1.alloc (.cells #[.int .i64 1, .int .i64 ix, .int .i64 sub, .bool tg, .bool la, .bool cr, .bool sz, .int .u32 (size : Nat), .int .u32 (code : Nat), .slice B1 m1 d1, .int .i64 sq, .int .i64 bl, .int .i64 em, .int .u16 (sum : Nat)] 44)
  have lx : v1.heap.size < (v1.alloc (.cells #[.int .i64 1, .int .i64 ix, .int .i64 sub, .bool tg, .bool la, .bool cr, .bool sz, .int .u32 (size : Nat), .int .u32 (code : Nat), .slice B1 m1 d1, .int .i64 sq, .int .i64 bl, .int .i64 em, .int .u16 (sum : Nat)] 44)).heap.size := by simp
  go_wp2_with fail
  generalize v1.alloc (.cells #[.int .i64 1, .int .i64 ix, .int .i64 sub, .bool tg, .bool la, .bool cr, .bool sz, .int .u32 (size : Nat), .int .u32 (code : Nat), .slice B1 m1 d1, .int .i64 sq, .int .i64 bl, .int .i64 em, .int .u16 (sum : Nat)] 44) = V1 at *
  have qy := q3.below hg1 lq3
  have ly := qy.lt
  have qx_c0 := qx.cell 0 rfl
  have qx_f0 := qx.frozen 0
  have qx_c1 := qx.cell 1 rfl
  have qx_f1 := qx.frozen 1
  have qx_c2 := qx.cell 2 rfl
  have qx_f2 := qx.frozen 2
  have qx_c3 := qx.cell 3 rfl
  have qx_f3 := qx.frozen 3
  have qx_c4 := qx.cell 4 rfl
  have qx_f4 := qx.frozen 4
  have qx_c5 := qx.cell 5 rfl
  have qx_f5 := qx.frozen 5
  have qx_c6 := qx.cell 6 rfl
  have qx_f6 := qx.frozen 6
  have qx_c7 := qx.cell 7 rfl
  have qx_f7 := qx.frozen 7
  have qx_c8 := qx.cell 8 rfl
  have qx_f8 := qx.frozen 8
  have qx_c9 := qx.cell 9 rfl
  have qx_f9 := qx.frozen 9
  have qx_c10 := qx.cell 10 rfl
  have qx_f10 := qx.frozen 10
  have qx_c11 := qx.cell 11 rfl
  have qx_f11 := qx.frozen 11
  have qx_c12 := qx.cell 12 rfl
  have qx_f12 := qx.frozen 12
  have qx_c13 := qx.cell 13 rfl
  have qx_f13 := qx.frozen 13
  have qy_c0 := qy.cell 0 rfl
  have qy_f0 := qy.frozen 0
  have qy_c1 := qy.cell 1 rfl
  have qy_f1 := qy.frozen 1
  have qy_c2 := qy.cell 2 rfl
  have qy_f2 := qy.frozen 2
  have qy_c3 := qy.cell 3 rfl
  have qy_f3 := qy.frozen 3
  have qy_c4 := qy.cell 4 rfl
  have qy_f4 := qy.frozen 4
  have qy_c5 := qy.cell 5 rfl
  have qy_f5 := qy.frozen 5
  have qy_c6 := qy.cell 6 rfl
  have qy_f6 := qy.frozen 6
  have qy_c7 := qy.cell 7 rfl
  have qy_f7 := qy.frozen 7
  have qy_c8 := qy.cell 8 rfl
  have qy_f8 := qy.frozen 8
  have qy_c9 := qy.cell 9 rfl
  have qy_f9 := qy.frozen 9
  have qy_c10 := qy.cell 10 rfl
  have qy_f10 := qy.frozen 10
  have qy_c11 := qy.cell 11 rfl
  have qy_f11 := qy.frozen 11
  have qy_c12 := qy.cell 12 rfl
  have qy_f12 := qy.frozen 12
  have qy_c13 := qy.cell 13 rfl
  have qy_f13 := qy.frozen 13
  refine wp_region_held_drew (S := (fun w' => (∀ p : Addr, p.block < (V1).heap.size → w'.cell? p = (V1).cell? p) ∧ Below (V1).heap.size (V1) w')) (by kernel_rfl) ?hS1 (fun hHeld => ?rest1)
  case hS1 => ((try dsimp only); (((try go_split_ands); refine sn_of ?_; repeat' (first | with_reducible assumption | with_reducible exact Below.refl _ _ | with_reducible apply below_alloc | with_reducible apply below_drew1 | with_reducible apply below_drewN | (with_reducible apply below_step; with_reducible assumption) | (with_reducible apply below_sg2; (first | exact Nat.le_refl _ | (simp; done) | omega))))))
  case' rest1 => skip
  refine wpAnyH_take (i := 0) (oi := _) (v := ?v2) rfl (by kernel_rfl) (by kernel_rfl) (by kernel_rfl) (fun _ _ _ h => h) (Or.inl ⟨by rfl, ?hy2⟩) (by assumption) ?rest2
  case hy2 => ((intro w hSw; (try dsimp only at hSw); go_simp) <;> with_reducible rfl)
  case' rest2 => try simp only [List.getElem_toArray, List.getElem_cons_zero, List.getElem_cons_succ, Act.put, List.setIfInBounds_toArray, List.set_cons_zero, List.set_cons_succ]
  refine wpAnyH_take (i := 1) (oi := _) (v := ?v3) rfl (by kernel_rfl) (by kernel_rfl) (by kernel_rfl) (fun _ _ _ h => h) (Or.inl ⟨by rfl, ?hy3⟩) (by assumption) ?rest3
  case hy3 => ((intro w hSw; (try dsimp only at hSw); go_simp) <;> with_reducible rfl)
  case' rest3 => try simp only [List.getElem_toArray, List.getElem_cons_zero, List.getElem_cons_succ, Act.put, List.setIfInBounds_toArray, List.set_cons_zero, List.set_cons_succ]
  refine wpAnyH_take (i := 2) (oi := _) (v := ?v4) rfl (by kernel_rfl) (by kernel_rfl) (by kernel_rfl) (fun _ _ _ h => h) (Or.inl ⟨by rfl, ?hy4⟩) (by assumption) ?rest4
  case hy4 => ((intro w hSw; (try dsimp only at hSw); go_simp) <;> with_reducible rfl)
  case' rest4 => try simp only [List.getElem_toArray, List.getElem_cons_zero, List.getElem_cons_succ, Act.put, List.setIfInBounds_toArray, List.set_cons_zero, List.set_cons_succ]
  refine wpAnyH_take (i := 3) (oi := _) (v := ?v5) rfl (by kernel_rfl) (by kernel_rfl) (by kernel_rfl) (fun _ _ _ h => h) (Or.inl ⟨by rfl, ?hy5⟩) (by assumption) ?rest5
  case hy5 => ((intro w hSw; (try dsimp only at hSw); go_simp) <;> with_reducible rfl)
  case' rest5 => try simp only [List.getElem_toArray, List.getElem_cons_zero, List.getElem_cons_succ, Act.put, List.setIfInBounds_toArray, List.set_cons_zero, List.set_cons_succ]
  refine wpAnyH_take (i := 5) (oi := _) (v := ?v6) rfl (by kernel_rfl) (by kernel_rfl) (by kernel_rfl) (fun _ _ _ h => h) (Or.inl ⟨by rfl, ?hy6⟩) (by assumption) ?rest6
  case hy6 => ((intro w hSw; (try dsimp only at hSw); go_simp) <;> with_reducible rfl)
  case' rest6 => try simp only [List.getElem_toArray, List.getElem_cons_zero, List.getElem_cons_succ, Act.put, List.setIfInBounds_toArray, List.set_cons_zero, List.set_cons_succ]
  refine wpAnyH_ready (rs := [4]) (by kernel_rfl) (by simp) ?_
  refine AllReadyH.cons (o := _) rfl (fun K hK => ?_) AllReadyH.nil
  go_simp
  refine (HTK.out _ B1 m1 d1).mono ?_
  rintro e x1 ⟨rfl, hx1⟩
  try dsimp only
  refine hK.out _ _ ?hS9 (fun hHeld => ?rest9)
  case hS9 => ((try dsimp only); (((try go_split_ands); refine sn_of ?_; repeat' (first | with_reducible assumption | with_reducible exact Below.refl _ _ | with_reducible apply below_alloc | with_reducible apply below_drew1 | with_reducible apply below_drewN | (with_reducible apply below_step; with_reducible assumption) | (with_reducible apply below_sg2; (first | exact Nat.le_refl _ | (simp; done) | omega))))))
  case' rest9 => (clear hK K; try simp only [List.getElem_toArray, List.getElem_cons_zero, List.getElem_cons_succ, Act.put, List.setIfInBounds_toArray, List.set_cons_zero, List.set_cons_succ])
  refine wpAnyH_ready (rs := [6]) (by kernel_rfl) (by simp) ?_
  refine AllReadyH.cons (o := _) rfl (fun K hK => ?_) AllReadyH.nil
  go_simp
  refine (HSM.out _ B1 m1 d1 hP1'.hn (hP1'.drew.below hx1).sl (hs3.below (below_step hx1 (below_drew1 hg1)))).mono ?_
  rintro e y1 ⟨rfl, hy1⟩
  try dsimp only
  refine hK.out _ _ ?hS12 (fun hHeld => ?rest12)
  case hS12 => ((try dsimp only); (((try go_split_ands); refine sn_of ?_; repeat' (first | with_reducible assumption | with_reducible exact Below.refl _ _ | with_reducible apply below_alloc | with_reducible apply below_drew1 | with_reducible apply below_drewN | (with_reducible apply below_step; with_reducible assumption) | (with_reducible apply below_sg2; (first | exact Nat.le_refl _ | (simp; done) | omega))))))
  case' rest12 => (clear hK K; try simp only [List.getElem_toArray, List.getElem_cons_zero, List.getElem_cons_succ, Act.put, List.setIfInBounds_toArray, List.set_cons_zero, List.set_cons_succ])
  refine wpAnyH_take (i := 7) (oi := _) (v := ?v13) rfl (by kernel_rfl) (by kernel_rfl) (by kernel_rfl) (fun _ _ _ h => h) (Or.inl ⟨by rfl, ?hy13⟩) (by assumption) ?rest13
  case hy13 => ((intro w hSw; (try dsimp only at hSw); go_simp) <;> with_reducible rfl)
  case' rest13 => try simp only [List.getElem_toArray, List.getElem_cons_zero, List.getElem_cons_succ, Act.put, List.setIfInBounds_toArray, List.set_cons_zero, List.set_cons_succ]
  refine wpAnyH_take (i := 8) (oi := _) (v := ?v14) rfl (by kernel_rfl) (by kernel_rfl) (by kernel_rfl) (fun _ _ _ h => h) (Or.inl ⟨by rfl, ?hy14⟩) (by assumption) ?rest14
  case hy14 => ((intro w hSw; (try dsimp only at hSw); go_simp) <;> with_reducible rfl)
  case' rest14 => try simp only [List.getElem_toArray, List.getElem_cons_zero, List.getElem_cons_succ, Act.put, List.setIfInBounds_toArray, List.set_cons_zero, List.set_cons_succ]
  refine wpAnyH_done (by kernel_rfl) ?_ _
  have hEnd := hHeld.2
  repeat (clear hHeld)
  clear qx_c0 qx_f0 qx_c1 qx_f1 qx_c2 qx_f2 qx_c3 qx_f3 qx_c4 qx_f4 qx_c5 qx_f5 qx_c6 qx_f6 qx_c7 qx_f7 qx_c8 qx_f8 qx_c9 qx_f9 qx_c10 qx_f10 qx_c11 qx_f11 qx_c12 qx_f12 qx_c13 qx_f13
  clear qy_c0 qy_f0 qy_c1 qy_f1 qy_c2 qy_f2 qy_c3 qy_f3 qy_c4 qy_f4 qy_c5 qy_f5 qy_c6 qy_f6 qy_c7 qy_f7 qy_c8 qy_f8 qy_c9 qy_f9 qy_c10 qy_f10 qy_c11 qy_f11 qy_c12 qy_f12 qy_c13 qy_f13
  clear qx qy lx ly hx1 hy1
  have hc1 := below_step hEnd hg1
  clear hEnd
  have r1 := q3.below hc1 lq3
  have lr1 := r1.lt
  have r1_c0 := r1.cell 0 rfl
  have r1_f0 := r1.frozen 0
  have r1_c1 := r1.cell 1 rfl
  have r1_f1 := r1.frozen 1
  have r1_c2 := r1.cell 2 rfl
  have r1_f2 := r1.frozen 2
  have r1_c3 := r1.cell 3 rfl
  have r1_f3 := r1.frozen 3
  have r1_c4 := r1.cell 4 rfl
  have r1_f4 := r1.frozen 4
  have r1_c5 := r1.cell 5 rfl
  have r1_f5 := r1.frozen 5
  have r1_c6 := r1.cell 6 rfl
  have r1_f6 := r1.frozen 6
  have r1_c7 := r1.cell 7 rfl
  have r1_f7 := r1.frozen 7
  have r1_c8 := r1.cell 8 rfl
  have r1_f8 := r1.frozen 8
  have r1_c9 := r1.cell 9 rfl
  have r1_f9 := r1.frozen 9
  have r1_c10 := r1.cell 10 rfl
  have r1_f10 := r1.frozen 10
  have r1_c11 := r1.cell 11 rfl
  have r1_f11 := r1.frozen 11
  have r1_c12 := r1.cell 12 rfl
  have r1_f12 := r1.frozen 12
  have r1_c13 := r1.cell 13 rfl
  have r1_f13 := r1.frozen 13
  go_wp2_with fail
  refine (HAns.out A3 8 c3 _ HS8.out.symm hO3.le (hO3.sl.below hc1)).mono ?_
  rintro e v2 ⟨B2, m2, d2, rfl, hP2, hv2⟩
  simp only [msV]
  clear r1_c0 r1_f0 r1_c1 r1_f1 r1_c2 r1_f2 r1_c3 r1_f3 r1_c4 r1_f4 r1_c5 r1_f5 r1_c6 r1_f6 r1_c7 r1_f7 r1_c8 r1_f8 r1_c9 r1_f9 r1_c10 r1_f10 r1_c11 r1_f11 r1_c12 r1_f12 r1_c13 r1_f13
  have qx := Blk.new v2 44 #[.int .i64 1, .int .i64 ix, .int .i64 sub, .bool tg, .bool la, .bool cr, .bool sz, .int .u32 (size : Nat), .int .u32 (code : Nat), .slice B2 m2 d2, .int .i64 sq, .int .i64 bl, .int .i64 em, .int .u16 (sum : Nat)]
  have hg2 : Below w3.heap.size w3 (v2.alloc (.cells #[.int .i64 1, .int .i64 ix, .int .i64 sub, .bool tg, .bool la, .bool cr, .bool sz, .int .u32 (size : Nat), .int .u32 (code : Nat), .slice B2 m2 d2, .int .i64 sq, .int .i64 bl, .int .i64 em, .int .u16 (sum : Nat)] 44)) := below_alloc (below_step hv2 hc1) _
  have hP2' := hP2.alloc (.cells #[.int .i64 1, .int .i64 ix, .int .i64 sub, .bool tg, .bool la, .bool cr, .bool sz, .int .u32 (size : Nat), .int .u32 (code : Nat), .slice B2 m2 d2, .int .i64 sq, .int .i64 bl, .int .i64 em, .int .u16 (sum : Nat)] 44)
  have lx : v2.heap.size < (v2.alloc (.cells #[.int .i64 1, .int .i64 ix, .int .i64 sub, .bool tg, .bool la, .bool cr, .bool sz, .int .u32 (size : Nat), .int .u32 (code : Nat), .slice B2 m2 d2, .int .i64 sq, .int .i64 bl, .int .i64 em, .int .u16 (sum : Nat)] 44)).heap.size := by simp
  go_wp2_with fail
  generalize v2.alloc (.cells #[.int .i64 1, .int .i64 ix, .int .i64 sub, .bool tg, .bool la, .bool cr, .bool sz, .int .u32 (size : Nat), .int .u32 (code : Nat), .slice B2 m2 d2, .int .i64 sq, .int .i64 bl, .int .i64 em, .int .u16 (sum : Nat)] 44) = V2 at *
  have qy := q3.below hg2 lq3
  have ly := qy.lt
  have qx_c0 := qx.cell 0 rfl
  have qx_f0 := qx.frozen 0
  have qx_c1 := qx.cell 1 rfl
  have qx_f1 := qx.frozen 1
  have qx_c2 := qx.cell 2 rfl
  have qx_f2 := qx.frozen 2
  have qx_c3 := qx.cell 3 rfl
  have qx_f3 := qx.frozen 3
  have qx_c4 := qx.cell 4 rfl
  have qx_f4 := qx.frozen 4
  have qx_c5 := qx.cell 5 rfl
  have qx_f5 := qx.frozen 5
  have qx_c6 := qx.cell 6 rfl
  have qx_f6 := qx.frozen 6
  have qx_c7 := qx.cell 7 rfl
  have qx_f7 := qx.frozen 7
  have qx_c8 := qx.cell 8 rfl
  have qx_f8 := qx.frozen 8
  have qx_c9 := qx.cell 9 rfl
  have qx_f9 := qx.frozen 9
  have qx_c10 := qx.cell 10 rfl
  have qx_f10 := qx.frozen 10
  have qx_c11 := qx.cell 11 rfl
  have qx_f11 := qx.frozen 11
  have qx_c12 := qx.cell 12 rfl
  have qx_f12 := qx.frozen 12
  have qx_c13 := qx.cell 13 rfl
  have qx_f13 := qx.frozen 13
  have qy_c0 := qy.cell 0 rfl
  have qy_f0 := qy.frozen 0
  have qy_c1 := qy.cell 1 rfl
  have qy_f1 := qy.frozen 1
  have qy_c2 := qy.cell 2 rfl
  have qy_f2 := qy.frozen 2
  have qy_c3 := qy.cell 3 rfl
  have qy_f3 := qy.frozen 3
  have qy_c4 := qy.cell 4 rfl
  have qy_f4 := qy.frozen 4
  have qy_c5 := qy.cell 5 rfl
  have qy_f5 := qy.frozen 5
  have qy_c6 := qy.cell 6 rfl
  have qy_f6 := qy.frozen 6
  have qy_c7 := qy.cell 7 rfl
  have qy_f7 := qy.frozen 7
  have qy_c8 := qy.cell 8 rfl
  have qy_f8 := qy.frozen 8
  have qy_c9 := qy.cell 9 rfl
  have qy_f9 := qy.frozen 9
  have qy_c10 := qy.cell 10 rfl
  have qy_f10 := qy.frozen 10
  have qy_c11 := qy.cell 11 rfl
  have qy_f11 := qy.frozen 11
  have qy_c12 := qy.cell 12 rfl
  have qy_f12 := qy.frozen 12
  have qy_c13 := qy.cell 13 rfl
  have qy_f13 := qy.frozen 13
  refine wp_region_held_drew (S := (fun w' => (∀ p : Addr, p.block < (V2).heap.size → w'.cell? p = (V2).cell? p) ∧ Below (V2).heap.size (V2) w')) (by kernel_rfl) ?hS16 (fun hHeld => ?rest16)
  case hS16 => ((try dsimp only); (((try go_split_ands); refine sn_of ?_; repeat' (first | with_reducible assumption | with_reducible exact Below.refl _ _ | with_reducible apply below_alloc | with_reducible apply below_drew1 | with_reducible apply below_drewN | (with_reducible apply below_step; with_reducible assumption) | (with_reducible apply below_sg2; (first | exact Nat.le_refl _ | (simp; done) | omega))))))
  case' rest16 => skip
  refine wpAnyH_take (i := 0) (oi := _) (v := ?v17) rfl (by kernel_rfl) (by kernel_rfl) (by kernel_rfl) (fun _ _ _ h => h) (Or.inl ⟨by rfl, ?hy17⟩) (by assumption) ?rest17
  case hy17 => ((intro w hSw; (try dsimp only at hSw); go_simp) <;> with_reducible rfl)
  case' rest17 => try simp only [List.getElem_toArray, List.getElem_cons_zero, List.getElem_cons_succ, Act.put, List.setIfInBounds_toArray, List.set_cons_zero, List.set_cons_succ]
  refine wpAnyH_take (i := 1) (oi := _) (v := ?v18) rfl (by kernel_rfl) (by kernel_rfl) (by kernel_rfl) (fun _ _ _ h => h) (Or.inl ⟨by rfl, ?hy18⟩) (by assumption) ?rest18
  case hy18 => ((intro w hSw; (try dsimp only at hSw); go_simp) <;> with_reducible rfl)
  case' rest18 => try simp only [List.getElem_toArray, List.getElem_cons_zero, List.getElem_cons_succ, Act.put, List.setIfInBounds_toArray, List.set_cons_zero, List.set_cons_succ]
  refine wpAnyH_take (i := 2) (oi := _) (v := ?v19) rfl (by kernel_rfl) (by kernel_rfl) (by kernel_rfl) (fun _ _ _ h => h) (Or.inl ⟨by rfl, ?hy19⟩) (by assumption) ?rest19
  case hy19 => ((intro w hSw; (try dsimp only at hSw); go_simp) <;> with_reducible rfl)
  case' rest19 => try simp only [List.getElem_toArray, List.getElem_cons_zero, List.getElem_cons_succ, Act.put, List.setIfInBounds_toArray, List.set_cons_zero, List.set_cons_succ]
  refine wpAnyH_take (i := 3) (oi := _) (v := ?v20) rfl (by kernel_rfl) (by kernel_rfl) (by kernel_rfl) (fun _ _ _ h => h) (Or.inl ⟨by rfl, ?hy20⟩) (by assumption) ?rest20
  case hy20 => ((intro w hSw; (try dsimp only at hSw); go_simp) <;> with_reducible rfl)
  case' rest20 => try simp only [List.getElem_toArray, List.getElem_cons_zero, List.getElem_cons_succ, Act.put, List.setIfInBounds_toArray, List.set_cons_zero, List.set_cons_succ]
  refine wpAnyH_take (i := 5) (oi := _) (v := ?v21) rfl (by kernel_rfl) (by kernel_rfl) (by kernel_rfl) (fun _ _ _ h => h) (Or.inl ⟨by rfl, ?hy21⟩) (by assumption) ?rest21
  case hy21 => ((intro w hSw; (try dsimp only at hSw); go_simp) <;> with_reducible rfl)
  case' rest21 => try simp only [List.getElem_toArray, List.getElem_cons_zero, List.getElem_cons_succ, Act.put, List.setIfInBounds_toArray, List.set_cons_zero, List.set_cons_succ]
  refine wpAnyH_ready (rs := [4]) (by kernel_rfl) (by simp) ?_
  refine AllReadyH.cons (o := _) rfl (fun K hK => ?_) AllReadyH.nil
  go_simp
  refine (HTK.out _ B2 m2 d2).mono ?_
  rintro e x2 ⟨rfl, hx2⟩
  try dsimp only
  refine hK.out _ _ ?hS24 (fun hHeld => ?rest24)
  case hS24 => ((try dsimp only); (((try go_split_ands); refine sn_of ?_; repeat' (first | with_reducible assumption | with_reducible exact Below.refl _ _ | with_reducible apply below_alloc | with_reducible apply below_drew1 | with_reducible apply below_drewN | (with_reducible apply below_step; with_reducible assumption) | (with_reducible apply below_sg2; (first | exact Nat.le_refl _ | (simp; done) | omega))))))
  case' rest24 => (clear hK K; try simp only [List.getElem_toArray, List.getElem_cons_zero, List.getElem_cons_succ, Act.put, List.setIfInBounds_toArray, List.set_cons_zero, List.set_cons_succ])
  refine wpAnyH_ready (rs := [6]) (by kernel_rfl) (by simp) ?_
  refine AllReadyH.cons (o := _) rfl (fun K hK => ?_) AllReadyH.nil
  go_simp
  refine (HSM.out _ B2 m2 d2 hP2'.hn (hP2'.drew.below hx2).sl (hs3.below (below_step hx2 (below_drew1 hg2)))).mono ?_
  rintro e y2 ⟨rfl, hy2⟩
  try dsimp only
  refine hK.out _ _ ?hS27 (fun hHeld => ?rest27)
  case hS27 => ((try dsimp only); (((try go_split_ands); refine sn_of ?_; repeat' (first | with_reducible assumption | with_reducible exact Below.refl _ _ | with_reducible apply below_alloc | with_reducible apply below_drew1 | with_reducible apply below_drewN | (with_reducible apply below_step; with_reducible assumption) | (with_reducible apply below_sg2; (first | exact Nat.le_refl _ | (simp; done) | omega))))))
  case' rest27 => (clear hK K; try simp only [List.getElem_toArray, List.getElem_cons_zero, List.getElem_cons_succ, Act.put, List.setIfInBounds_toArray, List.set_cons_zero, List.set_cons_succ])
  refine wpAnyH_take (i := 7) (oi := _) (v := ?v28) rfl (by kernel_rfl) (by kernel_rfl) (by kernel_rfl) (fun _ _ _ h => h) (Or.inl ⟨by rfl, ?hy28⟩) (by assumption) ?rest28
  case hy28 => ((intro w hSw; (try dsimp only at hSw); go_simp) <;> with_reducible rfl)
  case' rest28 => try simp only [List.getElem_toArray, List.getElem_cons_zero, List.getElem_cons_succ, Act.put, List.setIfInBounds_toArray, List.set_cons_zero, List.set_cons_succ]
  refine wpAnyH_take (i := 8) (oi := _) (v := ?v29) rfl (by kernel_rfl) (by kernel_rfl) (by kernel_rfl) (fun _ _ _ h => h) (Or.inl ⟨by rfl, ?hy29⟩) (by assumption) ?rest29
  case hy29 => ((intro w hSw; (try dsimp only at hSw); go_simp) <;> with_reducible rfl)
  case' rest29 => try simp only [List.getElem_toArray, List.getElem_cons_zero, List.getElem_cons_succ, Act.put, List.setIfInBounds_toArray, List.set_cons_zero, List.set_cons_succ]
  refine wpAnyH_done (by kernel_rfl) ?_ _
  have hEnd := hHeld.2
  repeat (clear hHeld)
  clear qx_c0 qx_f0 qx_c1 qx_f1 qx_c2 qx_f2 qx_c3 qx_f3 qx_c4 qx_f4 qx_c5 qx_f5 qx_c6 qx_f6 qx_c7 qx_f7 qx_c8 qx_f8 qx_c9 qx_f9 qx_c10 qx_f10 qx_c11 qx_f11 qx_c12 qx_f12 qx_c13 qx_f13
  clear qy_c0 qy_f0 qy_c1 qy_f1 qy_c2 qy_f2 qy_c3 qy_f3 qy_c4 qy_f4 qy_c5 qy_f5 qy_c6 qy_f6 qy_c7 qy_f7 qy_c8 qy_f8 qy_c9 qy_f9 qy_c10 qy_f10 qy_c11 qy_f11 qy_c12 qy_f12 qy_c13 qy_f13
  clear qx qy lx ly hx2 hy2
  have hc2 := below_step hEnd hg2
  clear hEnd
  have z := q3.below hc2 lq3
  have lz := z.lt
  have z_c0 := z.cell 0 rfl
  have z_f0 := z.frozen 0
  have z_c1 := z.cell 1 rfl
  have z_f1 := z.frozen 1
  have z_c2 := z.cell 2 rfl
  have z_f2 := z.frozen 2
  have z_c3 := z.cell 3 rfl
  have z_f3 := z.frozen 3
  have z_c4 := z.cell 4 rfl
  have z_f4 := z.frozen 4
  have z_c5 := z.cell 5 rfl
  have z_f5 := z.frozen 5
  have z_c6 := z.cell 6 rfl
  have z_f6 := z.frozen 6
  have z_c7 := z.cell 7 rfl
  have z_f7 := z.frozen 7
  have z_c8 := z.cell 8 rfl
  have z_f8 := z.frozen 8
  have z_c9 := z.cell 9 rfl
  have z_f9 := z.frozen 9
  have z_c10 := z.cell 10 rfl
  have z_f10 := z.frozen 10
  have z_c11 := z.cell 11 rfl
  have z_f11 := z.frozen 11
  have z_c12 := z.cell 12 rfl
  have z_f12 := z.frozen 12
  have z_c13 := z.cell 13 rfl
  have z_f13 := z.frozen 13
  go_wp2_with fail
  refine (known_20 _).mono ?_
  rintro e w4 ⟨rfl, hb4⟩
  go_wp2_with fail
  go_ret
  exact ⟨rfl, below_step hb4 (below_step hc2 hbw3)⟩
theorem sdomsgBack_ii (M : Ms) (A : Option Addr) (n c : Nat) (w : World) (hn : n = M.data.length) (hs : Sl w A (M.data.map bv)) (hu1 : M.size ≤ 4294967295) (hu2 : M.code ≤ 4294967295) (hu3 : M.sum ≤ 65535) (hn1000 : n ≤ 1000) (hcan : canB M = true) (hk1 : 2 ≤ M.kind) (hk2 : M.kind ≤ 11) :
    Calls Try.prog 9 #[.agg (msV M A n c)] w (TrueB w) := by
  have q0 := blk_one w 43 (msV M A n c)
  have hs1 := hs.alloc (.cells (msV M A n c) 43)
  have hbw := below_alloc (Below.refl w.heap.size w) (.cells (msV M A n c) 43)
  have HGV := hide (fun W => given_20 M A n c W)
  have HB := hide (fun W h => sd_build M A n c W hn h hu1 hu2 hu3)
  unfold BuildM at HB
  rw [hcan] at HB
  simp only [if_true, Bool.false_eq_true, if_false] at HB
  have HReq : Hid (∀ (A : Option Addr) (n c : Nat) (W : World), n = (laidB M).length → n ≤ c → Sl W A ((laidB M).map bv) → Calls Try.prog 37 #[.slice A n c] W (ReadM M W)) := hide (fun A n c W h1 h2 h3 => (by
    have h := sd_request A n c (laidB M) W h1 h2 h3
    unfold ReadR at h
    rw [(res_back reqK M hcan hu1 hu2 hu3 (by simp only [reqK, List.mem_cons, List.not_mem_nil, or_false]; omega) apart_req).1, (res_back reqK M hcan hu1 hu2 hu3 (by simp only [reqK, List.mem_cons, List.not_mem_nil, or_false]; omega) apart_req).2] at h
    exact h))
  have HS8 := hide (laid_len M hcan)
  have HN := hide hn
  have HSM := hide (fun (W : World) (A2 : Option Addr) (n2 c2 : Nat) (h1 : n2 = M.data.length) h2 h3 => rsd_same M M A2 A n2 c2 n c W h1 hn h2 h3)
  rw [same_self] at HSM
  have HTK := hide (fun (W : World) (A2 : Option Addr) (n2 c2 : Nat) => taken_20 M A2 n2 c2 W)
  generalize laidB M = L at *
  clear hs hcan hn
  obtain ⟨kind, ix, sub, tg, la, cr, sz, size, code, data, sq, bl, em, sum⟩ := M
  simp only [msV] at *
  have b1 : (kind == 1) = false := by simp; omega
  have b2 : (kind == 21) = false := by simp; omega
  go_enter Try.func9, Try.ntmps9
  have lq := q0.lt
  have q0_c0 := q0.cell 0 rfl
  have q0_f0 := q0.frozen 0
  have q0_c1 := q0.cell 1 rfl
  have q0_f1 := q0.frozen 1
  have q0_c2 := q0.cell 2 rfl
  have q0_f2 := q0.frozen 2
  have q0_c3 := q0.cell 3 rfl
  have q0_f3 := q0.frozen 3
  have q0_c4 := q0.cell 4 rfl
  have q0_f4 := q0.frozen 4
  have q0_c5 := q0.cell 5 rfl
  have q0_f5 := q0.frozen 5
  have q0_c6 := q0.cell 6 rfl
  have q0_f6 := q0.frozen 6
  have q0_c7 := q0.cell 7 rfl
  have q0_f7 := q0.frozen 7
  have q0_c8 := q0.cell 8 rfl
  have q0_f8 := q0.frozen 8
  have q0_c9 := q0.cell 9 rfl
  have q0_f9 := q0.frozen 9
  have q0_c10 := q0.cell 10 rfl
  have q0_f10 := q0.frozen 10
  have q0_c11 := q0.cell 11 rfl
  have q0_f11 := q0.frozen 11
  have q0_c12 := q0.cell 12 rfl
  have q0_f12 := q0.frozen 12
  have q0_c13 := q0.cell 13 rfl
  have q0_f13 := q0.frozen 13
  go_wp2_with fail
  generalize w.alloc (.cells #[.int .i64 kind, .int .i64 ix, .int .i64 sub, .bool tg, .bool la, .bool cr, .bool sz, .int .u32 (size : Nat), .int .u32 (code : Nat), .slice A n c, .int .i64 sq, .int .i64 bl, .int .i64 em, .int .u16 (sum : Nat)] 43) = W1 at *
  refine (HGV.out W1).mono ?_
  rintro e w2 ⟨rfl, hb2⟩
  go_wp2_with fail
  refine (HB.out w2 (hs1.below hb2)).mono ?_
  rintro e w3 ⟨A3, n3, c3, rfl, hO3, hb3⟩
  have hb13 : Below W1.heap.size W1 w3 := below_step hb3 hb2
  have hbw3 := below_step hb13 hbw
  have q3 := q0.below hb13 lq
  have hs3 := hs1.below hb13
  have lq3 := q3.lt
  clear q0_c0 q0_f0 q0_c1 q0_f1 q0_c2 q0_f2 q0_c3 q0_f3 q0_c4 q0_f4 q0_c5 q0_f5 q0_c6 q0_f6 q0_c7 q0_f7 q0_c8 q0_f8 q0_c9 q0_f9 q0_c10 q0_f10 q0_c11 q0_f11 q0_c12 q0_f12 q0_c13 q0_f13
  clear q0 hs1
  have hn3 : n3 = 8 := hO3.hn.trans HS8.out
  subst hn3
  have q3_c0 := q3.cell 0 rfl
  have q3_f0 := q3.frozen 0
  have q3_c1 := q3.cell 1 rfl
  have q3_f1 := q3.frozen 1
  have q3_c2 := q3.cell 2 rfl
  have q3_f2 := q3.frozen 2
  have q3_c3 := q3.cell 3 rfl
  have q3_f3 := q3.frozen 3
  have q3_c4 := q3.cell 4 rfl
  have q3_f4 := q3.frozen 4
  have q3_c5 := q3.cell 5 rfl
  have q3_f5 := q3.frozen 5
  have q3_c6 := q3.cell 6 rfl
  have q3_f6 := q3.frozen 6
  have q3_c7 := q3.cell 7 rfl
  have q3_f7 := q3.frozen 7
  have q3_c8 := q3.cell 8 rfl
  have q3_f8 := q3.frozen 8
  have q3_c9 := q3.cell 9 rfl
  have q3_f9 := q3.frozen 9
  have q3_c10 := q3.cell 10 rfl
  have q3_f10 := q3.frozen 10
  have q3_c11 := q3.cell 11 rfl
  have q3_f11 := q3.frozen 11
  have q3_c12 := q3.cell 12 rfl
  have q3_f12 := q3.frozen 12
  have q3_c13 := q3.cell 13 rfl
  have q3_f13 := q3.frozen 13
  go_wp2_with fail
  refine (HReq.out A3 8 c3 _ HS8.out.symm hO3.le hO3.sl).mono ?_
  rintro e v1 ⟨B1, m1, d1, rfl, hP1, hv1⟩
  simp only [msV]
  clear q3_c0 q3_f0 q3_c1 q3_f1 q3_c2 q3_f2 q3_c3 q3_f3 q3_c4 q3_f4 q3_c5 q3_f5 q3_c6 q3_f6 q3_c7 q3_f7 q3_c8 q3_f8 q3_c9 q3_f9 q3_c10 q3_f10 q3_c11 q3_f11 q3_c12 q3_f12 q3_c13 q3_f13
  have qx := Blk.new v1 44 #[.int .i64 kind, .int .i64 ix, .int .i64 sub, .bool tg, .bool la, .bool cr, .bool sz, .int .u32 (size : Nat), .int .u32 (code : Nat), .slice B1 m1 d1, .int .i64 sq, .int .i64 bl, .int .i64 em, .int .u16 (sum : Nat)]
  have hg1 : Below w3.heap.size w3 (v1.alloc (.cells #[.int .i64 kind, .int .i64 ix, .int .i64 sub, .bool tg, .bool la, .bool cr, .bool sz, .int .u32 (size : Nat), .int .u32 (code : Nat), .slice B1 m1 d1, .int .i64 sq, .int .i64 bl, .int .i64 em, .int .u16 (sum : Nat)] 44)) := below_alloc (below_step hv1 (Below.refl _ _)) _
  have hP1' := hP1.alloc (.cells #[.int .i64 kind, .int .i64 ix, .int .i64 sub, .bool tg, .bool la, .bool cr, .bool sz, .int .u32 (size : Nat), .int .u32 (code : Nat), .slice B1 m1 d1, .int .i64 sq, .int .i64 bl, .int .i64 em, .int .u16 (sum : Nat)] 44)
  have lx : v1.heap.size < (v1.alloc (.cells #[.int .i64 kind, .int .i64 ix, .int .i64 sub, .bool tg, .bool la, .bool cr, .bool sz, .int .u32 (size : Nat), .int .u32 (code : Nat), .slice B1 m1 d1, .int .i64 sq, .int .i64 bl, .int .i64 em, .int .u16 (sum : Nat)] 44)).heap.size := by simp
  go_wp2_with fail
  generalize v1.alloc (.cells #[.int .i64 kind, .int .i64 ix, .int .i64 sub, .bool tg, .bool la, .bool cr, .bool sz, .int .u32 (size : Nat), .int .u32 (code : Nat), .slice B1 m1 d1, .int .i64 sq, .int .i64 bl, .int .i64 em, .int .u16 (sum : Nat)] 44) = V1 at *
  have qy := q3.below hg1 lq3
  have ly := qy.lt
  have qx_c0 := qx.cell 0 rfl
  have qx_f0 := qx.frozen 0
  have qx_c1 := qx.cell 1 rfl
  have qx_f1 := qx.frozen 1
  have qx_c2 := qx.cell 2 rfl
  have qx_f2 := qx.frozen 2
  have qx_c3 := qx.cell 3 rfl
  have qx_f3 := qx.frozen 3
  have qx_c4 := qx.cell 4 rfl
  have qx_f4 := qx.frozen 4
  have qx_c5 := qx.cell 5 rfl
  have qx_f5 := qx.frozen 5
  have qx_c6 := qx.cell 6 rfl
  have qx_f6 := qx.frozen 6
  have qx_c7 := qx.cell 7 rfl
  have qx_f7 := qx.frozen 7
  have qx_c8 := qx.cell 8 rfl
  have qx_f8 := qx.frozen 8
  have qx_c9 := qx.cell 9 rfl
  have qx_f9 := qx.frozen 9
  have qx_c10 := qx.cell 10 rfl
  have qx_f10 := qx.frozen 10
  have qx_c11 := qx.cell 11 rfl
  have qx_f11 := qx.frozen 11
  have qx_c12 := qx.cell 12 rfl
  have qx_f12 := qx.frozen 12
  have qx_c13 := qx.cell 13 rfl
  have qx_f13 := qx.frozen 13
  have qy_c0 := qy.cell 0 rfl
  have qy_f0 := qy.frozen 0
  have qy_c1 := qy.cell 1 rfl
  have qy_f1 := qy.frozen 1
  have qy_c2 := qy.cell 2 rfl
  have qy_f2 := qy.frozen 2
  have qy_c3 := qy.cell 3 rfl
  have qy_f3 := qy.frozen 3
  have qy_c4 := qy.cell 4 rfl
  have qy_f4 := qy.frozen 4
  have qy_c5 := qy.cell 5 rfl
  have qy_f5 := qy.frozen 5
  have qy_c6 := qy.cell 6 rfl
  have qy_f6 := qy.frozen 6
  have qy_c7 := qy.cell 7 rfl
  have qy_f7 := qy.frozen 7
  have qy_c8 := qy.cell 8 rfl
  have qy_f8 := qy.frozen 8
  have qy_c9 := qy.cell 9 rfl
  have qy_f9 := qy.frozen 9
  have qy_c10 := qy.cell 10 rfl
  have qy_f10 := qy.frozen 10
  have qy_c11 := qy.cell 11 rfl
  have qy_f11 := qy.frozen 11
  have qy_c12 := qy.cell 12 rfl
  have qy_f12 := qy.frozen 12
  have qy_c13 := qy.cell 13 rfl
  have qy_f13 := qy.frozen 13
  refine wp_region_held_drew (S := (fun w' => (∀ p : Addr, p.block < (V1).heap.size → w'.cell? p = (V1).cell? p) ∧ Below (V1).heap.size (V1) w')) (by kernel_rfl) ?hS31 (fun hHeld => ?rest31)
  case hS31 => ((try dsimp only); (((try go_split_ands); refine sn_of ?_; repeat' (first | with_reducible assumption | with_reducible exact Below.refl _ _ | with_reducible apply below_alloc | with_reducible apply below_drew1 | with_reducible apply below_drewN | (with_reducible apply below_step; with_reducible assumption) | (with_reducible apply below_sg2; (first | exact Nat.le_refl _ | (simp; done) | omega))))))
  case' rest31 => skip
  refine wpAnyH_take (i := 0) (oi := _) (v := ?v32) rfl (by kernel_rfl) (by kernel_rfl) (by kernel_rfl) (fun _ _ _ h => h) (Or.inl ⟨by rfl, ?hy32⟩) (by assumption) ?rest32
  case hy32 => ((intro w hSw; (try dsimp only at hSw); go_simp) <;> with_reducible rfl)
  case' rest32 => try simp only [List.getElem_toArray, List.getElem_cons_zero, List.getElem_cons_succ, Act.put, List.setIfInBounds_toArray, List.set_cons_zero, List.set_cons_succ]
  refine wpAnyH_take (i := 1) (oi := _) (v := ?v33) rfl (by kernel_rfl) (by kernel_rfl) (by kernel_rfl) (fun _ _ _ h => h) (Or.inl ⟨by rfl, ?hy33⟩) (by assumption) ?rest33
  case hy33 => ((intro w hSw; (try dsimp only at hSw); go_simp) <;> with_reducible rfl)
  case' rest33 => try simp only [List.getElem_toArray, List.getElem_cons_zero, List.getElem_cons_succ, Act.put, List.setIfInBounds_toArray, List.set_cons_zero, List.set_cons_succ]
  refine wpAnyH_take (i := 2) (oi := _) (v := ?v34) rfl (by kernel_rfl) (by kernel_rfl) (by kernel_rfl) (fun _ _ _ h => h) (Or.inl ⟨by rfl, ?hy34⟩) (by assumption) ?rest34
  case hy34 => ((intro w hSw; (try dsimp only at hSw); go_simp) <;> with_reducible rfl)
  case' rest34 => try simp only [List.getElem_toArray, List.getElem_cons_zero, List.getElem_cons_succ, Act.put, List.setIfInBounds_toArray, List.set_cons_zero, List.set_cons_succ]
  refine wpAnyH_take (i := 3) (oi := _) (v := ?v35) rfl (by kernel_rfl) (by kernel_rfl) (by kernel_rfl) (fun _ _ _ h => h) (Or.inl ⟨by rfl, ?hy35⟩) (by assumption) ?rest35
  case hy35 => ((intro w hSw; (try dsimp only at hSw); go_simp) <;> with_reducible rfl)
  case' rest35 => try simp only [List.getElem_toArray, List.getElem_cons_zero, List.getElem_cons_succ, Act.put, List.setIfInBounds_toArray, List.set_cons_zero, List.set_cons_succ]
  refine wpAnyH_take (i := 5) (oi := _) (v := ?v36) rfl (by kernel_rfl) (by kernel_rfl) (by kernel_rfl) (fun _ _ _ h => h) (Or.inl ⟨by rfl, ?hy36⟩) (by assumption) ?rest36
  case hy36 => ((intro w hSw; (try dsimp only at hSw); go_simp) <;> with_reducible rfl)
  case' rest36 => try simp only [List.getElem_toArray, List.getElem_cons_zero, List.getElem_cons_succ, Act.put, List.setIfInBounds_toArray, List.set_cons_zero, List.set_cons_succ]
  refine wpAnyH_ready (rs := [4]) (by kernel_rfl) (by simp) ?_
  refine AllReadyH.cons (o := _) rfl (fun K hK => ?_) AllReadyH.nil
  go_simp
  refine (HTK.out _ B1 m1 d1).mono ?_
  rintro e x1 ⟨rfl, hx1⟩
  try dsimp only
  refine hK.out _ _ ?hS39 (fun hHeld => ?rest39)
  case hS39 => ((try dsimp only); (((try go_split_ands); refine sn_of ?_; repeat' (first | with_reducible assumption | with_reducible exact Below.refl _ _ | with_reducible apply below_alloc | with_reducible apply below_drew1 | with_reducible apply below_drewN | (with_reducible apply below_step; with_reducible assumption) | (with_reducible apply below_sg2; (first | exact Nat.le_refl _ | (simp; done) | omega))))))
  case' rest39 => (clear hK K; try simp only [List.getElem_toArray, List.getElem_cons_zero, List.getElem_cons_succ, Act.put, List.setIfInBounds_toArray, List.set_cons_zero, List.set_cons_succ])
  refine wpAnyH_ready (rs := [6]) (by kernel_rfl) (by simp) ?_
  refine AllReadyH.cons (o := _) rfl (fun K hK => ?_) AllReadyH.nil
  go_simp
  refine (HSM.out _ B1 m1 d1 hP1'.hn (hP1'.drew.below hx1).sl (hs3.below (below_step hx1 (below_drew1 hg1)))).mono ?_
  rintro e y1 ⟨rfl, hy1⟩
  try dsimp only
  refine hK.out _ _ ?hS42 (fun hHeld => ?rest42)
  case hS42 => ((try dsimp only); (((try go_split_ands); refine sn_of ?_; repeat' (first | with_reducible assumption | with_reducible exact Below.refl _ _ | with_reducible apply below_alloc | with_reducible apply below_drew1 | with_reducible apply below_drewN | (with_reducible apply below_step; with_reducible assumption) | (with_reducible apply below_sg2; (first | exact Nat.le_refl _ | (simp; done) | omega))))))
  case' rest42 => (clear hK K; try simp only [List.getElem_toArray, List.getElem_cons_zero, List.getElem_cons_succ, Act.put, List.setIfInBounds_toArray, List.set_cons_zero, List.set_cons_succ])
  refine wpAnyH_take (i := 7) (oi := _) (v := ?v43) rfl (by kernel_rfl) (by kernel_rfl) (by kernel_rfl) (fun _ _ _ h => h) (Or.inl ⟨by rfl, ?hy43⟩) (by assumption) ?rest43
  case hy43 => ((intro w hSw; (try dsimp only at hSw); go_simp) <;> with_reducible rfl)
  case' rest43 => try simp only [List.getElem_toArray, List.getElem_cons_zero, List.getElem_cons_succ, Act.put, List.setIfInBounds_toArray, List.set_cons_zero, List.set_cons_succ]
  refine wpAnyH_take (i := 8) (oi := _) (v := ?v44) rfl (by kernel_rfl) (by kernel_rfl) (by kernel_rfl) (fun _ _ _ h => h) (Or.inl ⟨by rfl, ?hy44⟩) (by assumption) ?rest44
  case hy44 => ((intro w hSw; (try dsimp only at hSw); go_simp) <;> with_reducible rfl)
  case' rest44 => try simp only [List.getElem_toArray, List.getElem_cons_zero, List.getElem_cons_succ, Act.put, List.setIfInBounds_toArray, List.set_cons_zero, List.set_cons_succ]
  refine wpAnyH_done (by kernel_rfl) ?_ _
  have hEnd := hHeld.2
  repeat (clear hHeld)
  clear qx_c0 qx_f0 qx_c1 qx_f1 qx_c2 qx_f2 qx_c3 qx_f3 qx_c4 qx_f4 qx_c5 qx_f5 qx_c6 qx_f6 qx_c7 qx_f7 qx_c8 qx_f8 qx_c9 qx_f9 qx_c10 qx_f10 qx_c11 qx_f11 qx_c12 qx_f12 qx_c13 qx_f13
  clear qy_c0 qy_f0 qy_c1 qy_f1 qy_c2 qy_f2 qy_c3 qy_f3 qy_c4 qy_f4 qy_c5 qy_f5 qy_c6 qy_f6 qy_c7 qy_f7 qy_c8 qy_f8 qy_c9 qy_f9 qy_c10 qy_f10 qy_c11 qy_f11 qy_c12 qy_f12 qy_c13 qy_f13
  clear qx qy lx ly hx1 hy1
  have hc1 := below_step hEnd hg1
  clear hEnd
  have z := q3.below hc1 lq3
  have lz := z.lt
  have z_c0 := z.cell 0 rfl
  have z_f0 := z.frozen 0
  have z_c1 := z.cell 1 rfl
  have z_f1 := z.frozen 1
  have z_c2 := z.cell 2 rfl
  have z_f2 := z.frozen 2
  have z_c3 := z.cell 3 rfl
  have z_f3 := z.frozen 3
  have z_c4 := z.cell 4 rfl
  have z_f4 := z.frozen 4
  have z_c5 := z.cell 5 rfl
  have z_f5 := z.frozen 5
  have z_c6 := z.cell 6 rfl
  have z_f6 := z.frozen 6
  have z_c7 := z.cell 7 rfl
  have z_f7 := z.frozen 7
  have z_c8 := z.cell 8 rfl
  have z_f8 := z.frozen 8
  have z_c9 := z.cell 9 rfl
  have z_f9 := z.frozen 9
  have z_c10 := z.cell 10 rfl
  have z_f10 := z.frozen 10
  have z_c11 := z.cell 11 rfl
  have z_f11 := z.frozen 11
  have z_c12 := z.cell 12 rfl
  have z_f12 := z.frozen 12
  have z_c13 := z.cell 13 rfl
  have z_f13 := z.frozen 13
  go_wp2_with fail
  refine (known_20 _).mono ?_
  rintro e w4 ⟨rfl, hb4⟩
  go_wp2_with fail
  go_ret
  exact ⟨rfl, below_step hb4 (below_step hc1 hbw3)⟩
theorem sdomsgBack_iii (M : Ms) (A : Option Addr) (n c : Nat) (w : World) (hn : n = M.data.length) (hs : Sl w A (M.data.map bv)) (hu1 : M.size ≤ 4294967295) (hu2 : M.code ≤ 4294967295) (hu3 : M.sum ≤ 65535) (hn1000 : n ≤ 1000) (hcan : canB M = true) (hk1 : 12 ≤ M.kind) (hk2 : M.kind ≤ 20) :
    Calls Try.prog 9 #[.agg (msV M A n c)] w (TrueB w) := by
  have q0 := blk_one w 43 (msV M A n c)
  have hs1 := hs.alloc (.cells (msV M A n c) 43)
  have hbw := below_alloc (Below.refl w.heap.size w) (.cells (msV M A n c) 43)
  have HGV := hide (fun W => given_20 M A n c W)
  have HB := hide (fun W h => sd_build M A n c W hn h hu1 hu2 hu3)
  unfold BuildM at HB
  rw [hcan] at HB
  simp only [if_true, Bool.false_eq_true, if_false] at HB
  have HAns : Hid (∀ (A : Option Addr) (n c : Nat) (W : World), n = (laidB M).length → n ≤ c → Sl W A ((laidB M).map bv) → Calls Try.prog 38 #[.slice A n c] W (ReadM M W)) := hide (fun A n c W h1 h2 h3 => (by
    have h := sd_answer A n c (laidB M) W h1 h2 h3
    unfold ReadR at h
    rw [(res_back ansK M hcan hu1 hu2 hu3 (by simp only [ansK, List.mem_cons, List.not_mem_nil, or_false]; omega) apart_ans).1, (res_back ansK M hcan hu1 hu2 hu3 (by simp only [ansK, List.mem_cons, List.not_mem_nil, or_false]; omega) apart_ans).2] at h
    exact h))
  have HS8 := hide (laid_len M hcan)
  have HN := hide hn
  have HSM := hide (fun (W : World) (A2 : Option Addr) (n2 c2 : Nat) (h1 : n2 = M.data.length) h2 h3 => rsd_same M M A2 A n2 c2 n c W h1 hn h2 h3)
  rw [same_self] at HSM
  have HTK := hide (fun (W : World) (A2 : Option Addr) (n2 c2 : Nat) => taken_20 M A2 n2 c2 W)
  generalize laidB M = L at *
  clear hs hcan hn
  obtain ⟨kind, ix, sub, tg, la, cr, sz, size, code, data, sq, bl, em, sum⟩ := M
  simp only [msV] at *
  have b1 : (kind == 1) = false := by simp; omega
  have b2 : (kind == 21) = false := by simp; omega
  go_enter Try.func9, Try.ntmps9
  have lq := q0.lt
  have q0_c0 := q0.cell 0 rfl
  have q0_f0 := q0.frozen 0
  have q0_c1 := q0.cell 1 rfl
  have q0_f1 := q0.frozen 1
  have q0_c2 := q0.cell 2 rfl
  have q0_f2 := q0.frozen 2
  have q0_c3 := q0.cell 3 rfl
  have q0_f3 := q0.frozen 3
  have q0_c4 := q0.cell 4 rfl
  have q0_f4 := q0.frozen 4
  have q0_c5 := q0.cell 5 rfl
  have q0_f5 := q0.frozen 5
  have q0_c6 := q0.cell 6 rfl
  have q0_f6 := q0.frozen 6
  have q0_c7 := q0.cell 7 rfl
  have q0_f7 := q0.frozen 7
  have q0_c8 := q0.cell 8 rfl
  have q0_f8 := q0.frozen 8
  have q0_c9 := q0.cell 9 rfl
  have q0_f9 := q0.frozen 9
  have q0_c10 := q0.cell 10 rfl
  have q0_f10 := q0.frozen 10
  have q0_c11 := q0.cell 11 rfl
  have q0_f11 := q0.frozen 11
  have q0_c12 := q0.cell 12 rfl
  have q0_f12 := q0.frozen 12
  have q0_c13 := q0.cell 13 rfl
  have q0_f13 := q0.frozen 13
  go_wp2_with fail
  generalize w.alloc (.cells #[.int .i64 kind, .int .i64 ix, .int .i64 sub, .bool tg, .bool la, .bool cr, .bool sz, .int .u32 (size : Nat), .int .u32 (code : Nat), .slice A n c, .int .i64 sq, .int .i64 bl, .int .i64 em, .int .u16 (sum : Nat)] 43) = W1 at *
  refine (HGV.out W1).mono ?_
  rintro e w2 ⟨rfl, hb2⟩
  go_wp2_with fail
  refine (HB.out w2 (hs1.below hb2)).mono ?_
  rintro e w3 ⟨A3, n3, c3, rfl, hO3, hb3⟩
  have hb13 : Below W1.heap.size W1 w3 := below_step hb3 hb2
  have hbw3 := below_step hb13 hbw
  have q3 := q0.below hb13 lq
  have hs3 := hs1.below hb13
  have lq3 := q3.lt
  clear q0_c0 q0_f0 q0_c1 q0_f1 q0_c2 q0_f2 q0_c3 q0_f3 q0_c4 q0_f4 q0_c5 q0_f5 q0_c6 q0_f6 q0_c7 q0_f7 q0_c8 q0_f8 q0_c9 q0_f9 q0_c10 q0_f10 q0_c11 q0_f11 q0_c12 q0_f12 q0_c13 q0_f13
  clear q0 hs1
  have hn3 : n3 = 8 := hO3.hn.trans HS8.out
  subst hn3
  have q3_c0 := q3.cell 0 rfl
  have q3_f0 := q3.frozen 0
  have q3_c1 := q3.cell 1 rfl
  have q3_f1 := q3.frozen 1
  have q3_c2 := q3.cell 2 rfl
  have q3_f2 := q3.frozen 2
  have q3_c3 := q3.cell 3 rfl
  have q3_f3 := q3.frozen 3
  have q3_c4 := q3.cell 4 rfl
  have q3_f4 := q3.frozen 4
  have q3_c5 := q3.cell 5 rfl
  have q3_f5 := q3.frozen 5
  have q3_c6 := q3.cell 6 rfl
  have q3_f6 := q3.frozen 6
  have q3_c7 := q3.cell 7 rfl
  have q3_f7 := q3.frozen 7
  have q3_c8 := q3.cell 8 rfl
  have q3_f8 := q3.frozen 8
  have q3_c9 := q3.cell 9 rfl
  have q3_f9 := q3.frozen 9
  have q3_c10 := q3.cell 10 rfl
  have q3_f10 := q3.frozen 10
  have q3_c11 := q3.cell 11 rfl
  have q3_f11 := q3.frozen 11
  have q3_c12 := q3.cell 12 rfl
  have q3_f12 := q3.frozen 12
  have q3_c13 := q3.cell 13 rfl
  have q3_f13 := q3.frozen 13
  go_wp2_with fail
  refine (HAns.out A3 8 c3 _ HS8.out.symm hO3.le hO3.sl).mono ?_
  rintro e v1 ⟨B1, m1, d1, rfl, hP1, hv1⟩
  simp only [msV]
  clear q3_c0 q3_f0 q3_c1 q3_f1 q3_c2 q3_f2 q3_c3 q3_f3 q3_c4 q3_f4 q3_c5 q3_f5 q3_c6 q3_f6 q3_c7 q3_f7 q3_c8 q3_f8 q3_c9 q3_f9 q3_c10 q3_f10 q3_c11 q3_f11 q3_c12 q3_f12 q3_c13 q3_f13
  have qx := Blk.new v1 44 #[.int .i64 kind, .int .i64 ix, .int .i64 sub, .bool tg, .bool la, .bool cr, .bool sz, .int .u32 (size : Nat), .int .u32 (code : Nat), .slice B1 m1 d1, .int .i64 sq, .int .i64 bl, .int .i64 em, .int .u16 (sum : Nat)]
  have hg1 : Below w3.heap.size w3 (v1.alloc (.cells #[.int .i64 kind, .int .i64 ix, .int .i64 sub, .bool tg, .bool la, .bool cr, .bool sz, .int .u32 (size : Nat), .int .u32 (code : Nat), .slice B1 m1 d1, .int .i64 sq, .int .i64 bl, .int .i64 em, .int .u16 (sum : Nat)] 44)) := below_alloc (below_step hv1 (Below.refl _ _)) _
  have hP1' := hP1.alloc (.cells #[.int .i64 kind, .int .i64 ix, .int .i64 sub, .bool tg, .bool la, .bool cr, .bool sz, .int .u32 (size : Nat), .int .u32 (code : Nat), .slice B1 m1 d1, .int .i64 sq, .int .i64 bl, .int .i64 em, .int .u16 (sum : Nat)] 44)
  have lx : v1.heap.size < (v1.alloc (.cells #[.int .i64 kind, .int .i64 ix, .int .i64 sub, .bool tg, .bool la, .bool cr, .bool sz, .int .u32 (size : Nat), .int .u32 (code : Nat), .slice B1 m1 d1, .int .i64 sq, .int .i64 bl, .int .i64 em, .int .u16 (sum : Nat)] 44)).heap.size := by simp
  go_wp2_with fail
  generalize v1.alloc (.cells #[.int .i64 kind, .int .i64 ix, .int .i64 sub, .bool tg, .bool la, .bool cr, .bool sz, .int .u32 (size : Nat), .int .u32 (code : Nat), .slice B1 m1 d1, .int .i64 sq, .int .i64 bl, .int .i64 em, .int .u16 (sum : Nat)] 44) = V1 at *
  have qy := q3.below hg1 lq3
  have ly := qy.lt
  have qx_c0 := qx.cell 0 rfl
  have qx_f0 := qx.frozen 0
  have qx_c1 := qx.cell 1 rfl
  have qx_f1 := qx.frozen 1
  have qx_c2 := qx.cell 2 rfl
  have qx_f2 := qx.frozen 2
  have qx_c3 := qx.cell 3 rfl
  have qx_f3 := qx.frozen 3
  have qx_c4 := qx.cell 4 rfl
  have qx_f4 := qx.frozen 4
  have qx_c5 := qx.cell 5 rfl
  have qx_f5 := qx.frozen 5
  have qx_c6 := qx.cell 6 rfl
  have qx_f6 := qx.frozen 6
  have qx_c7 := qx.cell 7 rfl
  have qx_f7 := qx.frozen 7
  have qx_c8 := qx.cell 8 rfl
  have qx_f8 := qx.frozen 8
  have qx_c9 := qx.cell 9 rfl
  have qx_f9 := qx.frozen 9
  have qx_c10 := qx.cell 10 rfl
  have qx_f10 := qx.frozen 10
  have qx_c11 := qx.cell 11 rfl
  have qx_f11 := qx.frozen 11
  have qx_c12 := qx.cell 12 rfl
  have qx_f12 := qx.frozen 12
  have qx_c13 := qx.cell 13 rfl
  have qx_f13 := qx.frozen 13
  have qy_c0 := qy.cell 0 rfl
  have qy_f0 := qy.frozen 0
  have qy_c1 := qy.cell 1 rfl
  have qy_f1 := qy.frozen 1
  have qy_c2 := qy.cell 2 rfl
  have qy_f2 := qy.frozen 2
  have qy_c3 := qy.cell 3 rfl
  have qy_f3 := qy.frozen 3
  have qy_c4 := qy.cell 4 rfl
  have qy_f4 := qy.frozen 4
  have qy_c5 := qy.cell 5 rfl
  have qy_f5 := qy.frozen 5
  have qy_c6 := qy.cell 6 rfl
  have qy_f6 := qy.frozen 6
  have qy_c7 := qy.cell 7 rfl
  have qy_f7 := qy.frozen 7
  have qy_c8 := qy.cell 8 rfl
  have qy_f8 := qy.frozen 8
  have qy_c9 := qy.cell 9 rfl
  have qy_f9 := qy.frozen 9
  have qy_c10 := qy.cell 10 rfl
  have qy_f10 := qy.frozen 10
  have qy_c11 := qy.cell 11 rfl
  have qy_f11 := qy.frozen 11
  have qy_c12 := qy.cell 12 rfl
  have qy_f12 := qy.frozen 12
  have qy_c13 := qy.cell 13 rfl
  have qy_f13 := qy.frozen 13
  refine wp_region_held_drew (S := (fun w' => (∀ p : Addr, p.block < (V1).heap.size → w'.cell? p = (V1).cell? p) ∧ Below (V1).heap.size (V1) w')) (by kernel_rfl) ?hS46 (fun hHeld => ?rest46)
  case hS46 => ((try dsimp only); (((try go_split_ands); refine sn_of ?_; repeat' (first | with_reducible assumption | with_reducible exact Below.refl _ _ | with_reducible apply below_alloc | with_reducible apply below_drew1 | with_reducible apply below_drewN | (with_reducible apply below_step; with_reducible assumption) | (with_reducible apply below_sg2; (first | exact Nat.le_refl _ | (simp; done) | omega))))))
  case' rest46 => skip
  refine wpAnyH_take (i := 0) (oi := _) (v := ?v47) rfl (by kernel_rfl) (by kernel_rfl) (by kernel_rfl) (fun _ _ _ h => h) (Or.inl ⟨by rfl, ?hy47⟩) (by assumption) ?rest47
  case hy47 => ((intro w hSw; (try dsimp only at hSw); go_simp) <;> with_reducible rfl)
  case' rest47 => try simp only [List.getElem_toArray, List.getElem_cons_zero, List.getElem_cons_succ, Act.put, List.setIfInBounds_toArray, List.set_cons_zero, List.set_cons_succ]
  refine wpAnyH_take (i := 1) (oi := _) (v := ?v48) rfl (by kernel_rfl) (by kernel_rfl) (by kernel_rfl) (fun _ _ _ h => h) (Or.inl ⟨by rfl, ?hy48⟩) (by assumption) ?rest48
  case hy48 => ((intro w hSw; (try dsimp only at hSw); go_simp) <;> with_reducible rfl)
  case' rest48 => try simp only [List.getElem_toArray, List.getElem_cons_zero, List.getElem_cons_succ, Act.put, List.setIfInBounds_toArray, List.set_cons_zero, List.set_cons_succ]
  refine wpAnyH_take (i := 2) (oi := _) (v := ?v49) rfl (by kernel_rfl) (by kernel_rfl) (by kernel_rfl) (fun _ _ _ h => h) (Or.inl ⟨by rfl, ?hy49⟩) (by assumption) ?rest49
  case hy49 => ((intro w hSw; (try dsimp only at hSw); go_simp) <;> with_reducible rfl)
  case' rest49 => try simp only [List.getElem_toArray, List.getElem_cons_zero, List.getElem_cons_succ, Act.put, List.setIfInBounds_toArray, List.set_cons_zero, List.set_cons_succ]
  refine wpAnyH_take (i := 3) (oi := _) (v := ?v50) rfl (by kernel_rfl) (by kernel_rfl) (by kernel_rfl) (fun _ _ _ h => h) (Or.inl ⟨by rfl, ?hy50⟩) (by assumption) ?rest50
  case hy50 => ((intro w hSw; (try dsimp only at hSw); go_simp) <;> with_reducible rfl)
  case' rest50 => try simp only [List.getElem_toArray, List.getElem_cons_zero, List.getElem_cons_succ, Act.put, List.setIfInBounds_toArray, List.set_cons_zero, List.set_cons_succ]
  refine wpAnyH_take (i := 5) (oi := _) (v := ?v51) rfl (by kernel_rfl) (by kernel_rfl) (by kernel_rfl) (fun _ _ _ h => h) (Or.inl ⟨by rfl, ?hy51⟩) (by assumption) ?rest51
  case hy51 => ((intro w hSw; (try dsimp only at hSw); go_simp) <;> with_reducible rfl)
  case' rest51 => try simp only [List.getElem_toArray, List.getElem_cons_zero, List.getElem_cons_succ, Act.put, List.setIfInBounds_toArray, List.set_cons_zero, List.set_cons_succ]
  refine wpAnyH_ready (rs := [4]) (by kernel_rfl) (by simp) ?_
  refine AllReadyH.cons (o := _) rfl (fun K hK => ?_) AllReadyH.nil
  go_simp
  refine (HTK.out _ B1 m1 d1).mono ?_
  rintro e x1 ⟨rfl, hx1⟩
  try dsimp only
  refine hK.out _ _ ?hS54 (fun hHeld => ?rest54)
  case hS54 => ((try dsimp only); (((try go_split_ands); refine sn_of ?_; repeat' (first | with_reducible assumption | with_reducible exact Below.refl _ _ | with_reducible apply below_alloc | with_reducible apply below_drew1 | with_reducible apply below_drewN | (with_reducible apply below_step; with_reducible assumption) | (with_reducible apply below_sg2; (first | exact Nat.le_refl _ | (simp; done) | omega))))))
  case' rest54 => (clear hK K; try simp only [List.getElem_toArray, List.getElem_cons_zero, List.getElem_cons_succ, Act.put, List.setIfInBounds_toArray, List.set_cons_zero, List.set_cons_succ])
  refine wpAnyH_ready (rs := [6]) (by kernel_rfl) (by simp) ?_
  refine AllReadyH.cons (o := _) rfl (fun K hK => ?_) AllReadyH.nil
  go_simp
  refine (HSM.out _ B1 m1 d1 hP1'.hn (hP1'.drew.below hx1).sl (hs3.below (below_step hx1 (below_drew1 hg1)))).mono ?_
  rintro e y1 ⟨rfl, hy1⟩
  try dsimp only
  refine hK.out _ _ ?hS57 (fun hHeld => ?rest57)
  case hS57 => ((try dsimp only); (((try go_split_ands); refine sn_of ?_; repeat' (first | with_reducible assumption | with_reducible exact Below.refl _ _ | with_reducible apply below_alloc | with_reducible apply below_drew1 | with_reducible apply below_drewN | (with_reducible apply below_step; with_reducible assumption) | (with_reducible apply below_sg2; (first | exact Nat.le_refl _ | (simp; done) | omega))))))
  case' rest57 => (clear hK K; try simp only [List.getElem_toArray, List.getElem_cons_zero, List.getElem_cons_succ, Act.put, List.setIfInBounds_toArray, List.set_cons_zero, List.set_cons_succ])
  refine wpAnyH_take (i := 7) (oi := _) (v := ?v58) rfl (by kernel_rfl) (by kernel_rfl) (by kernel_rfl) (fun _ _ _ h => h) (Or.inl ⟨by rfl, ?hy58⟩) (by assumption) ?rest58
  case hy58 => ((intro w hSw; (try dsimp only at hSw); go_simp) <;> with_reducible rfl)
  case' rest58 => try simp only [List.getElem_toArray, List.getElem_cons_zero, List.getElem_cons_succ, Act.put, List.setIfInBounds_toArray, List.set_cons_zero, List.set_cons_succ]
  refine wpAnyH_take (i := 8) (oi := _) (v := ?v59) rfl (by kernel_rfl) (by kernel_rfl) (by kernel_rfl) (fun _ _ _ h => h) (Or.inl ⟨by rfl, ?hy59⟩) (by assumption) ?rest59
  case hy59 => ((intro w hSw; (try dsimp only at hSw); go_simp) <;> with_reducible rfl)
  case' rest59 => try simp only [List.getElem_toArray, List.getElem_cons_zero, List.getElem_cons_succ, Act.put, List.setIfInBounds_toArray, List.set_cons_zero, List.set_cons_succ]
  refine wpAnyH_done (by kernel_rfl) ?_ _
  have hEnd := hHeld.2
  repeat (clear hHeld)
  clear qx_c0 qx_f0 qx_c1 qx_f1 qx_c2 qx_f2 qx_c3 qx_f3 qx_c4 qx_f4 qx_c5 qx_f5 qx_c6 qx_f6 qx_c7 qx_f7 qx_c8 qx_f8 qx_c9 qx_f9 qx_c10 qx_f10 qx_c11 qx_f11 qx_c12 qx_f12 qx_c13 qx_f13
  clear qy_c0 qy_f0 qy_c1 qy_f1 qy_c2 qy_f2 qy_c3 qy_f3 qy_c4 qy_f4 qy_c5 qy_f5 qy_c6 qy_f6 qy_c7 qy_f7 qy_c8 qy_f8 qy_c9 qy_f9 qy_c10 qy_f10 qy_c11 qy_f11 qy_c12 qy_f12 qy_c13 qy_f13
  clear qx qy lx ly hx1 hy1
  have hc1 := below_step hEnd hg1
  clear hEnd
  have z := q3.below hc1 lq3
  have lz := z.lt
  have z_c0 := z.cell 0 rfl
  have z_f0 := z.frozen 0
  have z_c1 := z.cell 1 rfl
  have z_f1 := z.frozen 1
  have z_c2 := z.cell 2 rfl
  have z_f2 := z.frozen 2
  have z_c3 := z.cell 3 rfl
  have z_f3 := z.frozen 3
  have z_c4 := z.cell 4 rfl
  have z_f4 := z.frozen 4
  have z_c5 := z.cell 5 rfl
  have z_f5 := z.frozen 5
  have z_c6 := z.cell 6 rfl
  have z_f6 := z.frozen 6
  have z_c7 := z.cell 7 rfl
  have z_f7 := z.frozen 7
  have z_c8 := z.cell 8 rfl
  have z_f8 := z.frozen 8
  have z_c9 := z.cell 9 rfl
  have z_f9 := z.frozen 9
  have z_c10 := z.cell 10 rfl
  have z_f10 := z.frozen 10
  have z_c11 := z.cell 11 rfl
  have z_f11 := z.frozen 11
  have z_c12 := z.cell 12 rfl
  have z_f12 := z.frozen 12
  have z_c13 := z.cell 13 rfl
  have z_f13 := z.frozen 13
  go_wp2_with fail
  refine (known_20 _).mono ?_
  rintro e w4 ⟨rfl, hb4⟩
  go_wp2_with fail
  go_ret
  exact ⟨rfl, below_step hb4 (below_step hc1 hbw3)⟩
theorem sdomsgBack_iv (M : Ms) (A : Option Addr) (n c : Nat) (w : World) (hn : n = M.data.length) (hs : Sl w A (M.data.map bv)) (hu1 : M.size ≤ 4294967295) (hu2 : M.code ≤ 4294967295) (hu3 : M.sum ≤ 65535) (hn1000 : n ≤ 1000) (hcan : canB M = true) (hk : M.kind = 21) :
    Calls Try.prog 9 #[.agg (msV M A n c)] w (TrueB w) := by
  have q0 := blk_one w 43 (msV M A n c)
  have hs1 := hs.alloc (.cells (msV M A n c) 43)
  have hbw := below_alloc (Below.refl w.heap.size w) (.cells (msV M A n c) 43)
  have HGV := hide (fun W => given_20 M A n c W)
  have HB := hide (fun W h => sd_build M A n c W hn h hu1 hu2 hu3)
  unfold BuildM at HB
  rw [hcan] at HB
  simp only [if_true, Bool.false_eq_true, if_false] at HB
  have HSeg : Hid (∀ (A : Option Addr) (n c : Nat) (W : World), n = (laidB M).length → n ≤ c → Sl W A ((laidB M).map bv) → Calls Try.prog 39 #[.slice A n c] W (ReadM M W)) := hide (fun A n c W h1 h2 h3 => (by
    have h := sd_segment A n c (laidB M) W h1 h2 h3
    unfold ReadR at h
    rw [(res_back segK M hcan hu1 hu2 hu3 (by rw [hk]; decide) apart_seg).1, (res_back segK M hcan hu1 hu2 hu3 (by rw [hk]; decide) apart_seg).2] at h
    exact h))
  have HS8 := hide (laid_len M hcan)
  have HN := hide hn
  have HSM := hide (fun (W : World) (A2 : Option Addr) (n2 c2 : Nat) (h1 : n2 = M.data.length) h2 h3 => rsd_same M M A2 A n2 c2 n c W h1 hn h2 h3)
  rw [same_self] at HSM
  have HTK := hide (fun (W : World) (A2 : Option Addr) (n2 c2 : Nat) => taken_20 M A2 n2 c2 W)
  generalize laidB M = L at *
  clear hs hcan hn
  obtain ⟨kind, ix, sub, tg, la, cr, sz, size, code, data, sq, bl, em, sum⟩ := M
  simp only [] at hk
  subst hk
  simp only [msV] at *
  go_enter Try.func9, Try.ntmps9
  have lq := q0.lt
  have q0_c0 := q0.cell 0 rfl
  have q0_f0 := q0.frozen 0
  have q0_c1 := q0.cell 1 rfl
  have q0_f1 := q0.frozen 1
  have q0_c2 := q0.cell 2 rfl
  have q0_f2 := q0.frozen 2
  have q0_c3 := q0.cell 3 rfl
  have q0_f3 := q0.frozen 3
  have q0_c4 := q0.cell 4 rfl
  have q0_f4 := q0.frozen 4
  have q0_c5 := q0.cell 5 rfl
  have q0_f5 := q0.frozen 5
  have q0_c6 := q0.cell 6 rfl
  have q0_f6 := q0.frozen 6
  have q0_c7 := q0.cell 7 rfl
  have q0_f7 := q0.frozen 7
  have q0_c8 := q0.cell 8 rfl
  have q0_f8 := q0.frozen 8
  have q0_c9 := q0.cell 9 rfl
  have q0_f9 := q0.frozen 9
  have q0_c10 := q0.cell 10 rfl
  have q0_f10 := q0.frozen 10
  have q0_c11 := q0.cell 11 rfl
  have q0_f11 := q0.frozen 11
  have q0_c12 := q0.cell 12 rfl
  have q0_f12 := q0.frozen 12
  have q0_c13 := q0.cell 13 rfl
  have q0_f13 := q0.frozen 13
  go_wp2_with fail
  generalize w.alloc (.cells #[.int .i64 21, .int .i64 ix, .int .i64 sub, .bool tg, .bool la, .bool cr, .bool sz, .int .u32 (size : Nat), .int .u32 (code : Nat), .slice A n c, .int .i64 sq, .int .i64 bl, .int .i64 em, .int .u16 (sum : Nat)] 43) = W1 at *
  refine (HGV.out W1).mono ?_
  rintro e w2 ⟨rfl, hb2⟩
  go_wp2_with fail
  refine (HB.out w2 (hs1.below hb2)).mono ?_
  rintro e w3 ⟨A3, n3, c3, rfl, hO3, hb3⟩
  have hb13 : Below W1.heap.size W1 w3 := below_step hb3 hb2
  have hbw3 := below_step hb13 hbw
  have q3 := q0.below hb13 lq
  have hs3 := hs1.below hb13
  have lq3 := q3.lt
  clear q0_c0 q0_f0 q0_c1 q0_f1 q0_c2 q0_f2 q0_c3 q0_f3 q0_c4 q0_f4 q0_c5 q0_f5 q0_c6 q0_f6 q0_c7 q0_f7 q0_c8 q0_f8 q0_c9 q0_f9 q0_c10 q0_f10 q0_c11 q0_f11 q0_c12 q0_f12 q0_c13 q0_f13
  clear q0 hs1
  have hn3 : n3 = 8 := hO3.hn.trans HS8.out
  subst hn3
  have q3_c0 := q3.cell 0 rfl
  have q3_f0 := q3.frozen 0
  have q3_c1 := q3.cell 1 rfl
  have q3_f1 := q3.frozen 1
  have q3_c2 := q3.cell 2 rfl
  have q3_f2 := q3.frozen 2
  have q3_c3 := q3.cell 3 rfl
  have q3_f3 := q3.frozen 3
  have q3_c4 := q3.cell 4 rfl
  have q3_f4 := q3.frozen 4
  have q3_c5 := q3.cell 5 rfl
  have q3_f5 := q3.frozen 5
  have q3_c6 := q3.cell 6 rfl
  have q3_f6 := q3.frozen 6
  have q3_c7 := q3.cell 7 rfl
  have q3_f7 := q3.frozen 7
  have q3_c8 := q3.cell 8 rfl
  have q3_f8 := q3.frozen 8
  have q3_c9 := q3.cell 9 rfl
  have q3_f9 := q3.frozen 9
  have q3_c10 := q3.cell 10 rfl
  have q3_f10 := q3.frozen 10
  have q3_c11 := q3.cell 11 rfl
  have q3_f11 := q3.frozen 11
  have q3_c12 := q3.cell 12 rfl
  have q3_f12 := q3.frozen 12
  have q3_c13 := q3.cell 13 rfl
  have q3_f13 := q3.frozen 13
  go_wp2_with fail
  refine (HSeg.out A3 8 c3 _ HS8.out.symm hO3.le hO3.sl).mono ?_
  rintro e v1 ⟨B1, m1, d1, rfl, hP1, hv1⟩
  simp only [msV]
  clear q3_c0 q3_f0 q3_c1 q3_f1 q3_c2 q3_f2 q3_c3 q3_f3 q3_c4 q3_f4 q3_c5 q3_f5 q3_c6 q3_f6 q3_c7 q3_f7 q3_c8 q3_f8 q3_c9 q3_f9 q3_c10 q3_f10 q3_c11 q3_f11 q3_c12 q3_f12 q3_c13 q3_f13
  have qx := Blk.new v1 44 #[.int .i64 21, .int .i64 ix, .int .i64 sub, .bool tg, .bool la, .bool cr, .bool sz, .int .u32 (size : Nat), .int .u32 (code : Nat), .slice B1 m1 d1, .int .i64 sq, .int .i64 bl, .int .i64 em, .int .u16 (sum : Nat)]
  have hg1 : Below w3.heap.size w3 (v1.alloc (.cells #[.int .i64 21, .int .i64 ix, .int .i64 sub, .bool tg, .bool la, .bool cr, .bool sz, .int .u32 (size : Nat), .int .u32 (code : Nat), .slice B1 m1 d1, .int .i64 sq, .int .i64 bl, .int .i64 em, .int .u16 (sum : Nat)] 44)) := below_alloc (below_step hv1 (Below.refl _ _)) _
  have hP1' := hP1.alloc (.cells #[.int .i64 21, .int .i64 ix, .int .i64 sub, .bool tg, .bool la, .bool cr, .bool sz, .int .u32 (size : Nat), .int .u32 (code : Nat), .slice B1 m1 d1, .int .i64 sq, .int .i64 bl, .int .i64 em, .int .u16 (sum : Nat)] 44)
  have lx : v1.heap.size < (v1.alloc (.cells #[.int .i64 21, .int .i64 ix, .int .i64 sub, .bool tg, .bool la, .bool cr, .bool sz, .int .u32 (size : Nat), .int .u32 (code : Nat), .slice B1 m1 d1, .int .i64 sq, .int .i64 bl, .int .i64 em, .int .u16 (sum : Nat)] 44)).heap.size := by simp
  go_wp2_with fail
  generalize v1.alloc (.cells #[.int .i64 21, .int .i64 ix, .int .i64 sub, .bool tg, .bool la, .bool cr, .bool sz, .int .u32 (size : Nat), .int .u32 (code : Nat), .slice B1 m1 d1, .int .i64 sq, .int .i64 bl, .int .i64 em, .int .u16 (sum : Nat)] 44) = V1 at *
  have qy := q3.below hg1 lq3
  have ly := qy.lt
  have qx_c0 := qx.cell 0 rfl
  have qx_f0 := qx.frozen 0
  have qx_c1 := qx.cell 1 rfl
  have qx_f1 := qx.frozen 1
  have qx_c2 := qx.cell 2 rfl
  have qx_f2 := qx.frozen 2
  have qx_c3 := qx.cell 3 rfl
  have qx_f3 := qx.frozen 3
  have qx_c4 := qx.cell 4 rfl
  have qx_f4 := qx.frozen 4
  have qx_c5 := qx.cell 5 rfl
  have qx_f5 := qx.frozen 5
  have qx_c6 := qx.cell 6 rfl
  have qx_f6 := qx.frozen 6
  have qx_c7 := qx.cell 7 rfl
  have qx_f7 := qx.frozen 7
  have qx_c8 := qx.cell 8 rfl
  have qx_f8 := qx.frozen 8
  have qx_c9 := qx.cell 9 rfl
  have qx_f9 := qx.frozen 9
  have qx_c10 := qx.cell 10 rfl
  have qx_f10 := qx.frozen 10
  have qx_c11 := qx.cell 11 rfl
  have qx_f11 := qx.frozen 11
  have qx_c12 := qx.cell 12 rfl
  have qx_f12 := qx.frozen 12
  have qx_c13 := qx.cell 13 rfl
  have qx_f13 := qx.frozen 13
  have qy_c0 := qy.cell 0 rfl
  have qy_f0 := qy.frozen 0
  have qy_c1 := qy.cell 1 rfl
  have qy_f1 := qy.frozen 1
  have qy_c2 := qy.cell 2 rfl
  have qy_f2 := qy.frozen 2
  have qy_c3 := qy.cell 3 rfl
  have qy_f3 := qy.frozen 3
  have qy_c4 := qy.cell 4 rfl
  have qy_f4 := qy.frozen 4
  have qy_c5 := qy.cell 5 rfl
  have qy_f5 := qy.frozen 5
  have qy_c6 := qy.cell 6 rfl
  have qy_f6 := qy.frozen 6
  have qy_c7 := qy.cell 7 rfl
  have qy_f7 := qy.frozen 7
  have qy_c8 := qy.cell 8 rfl
  have qy_f8 := qy.frozen 8
  have qy_c9 := qy.cell 9 rfl
  have qy_f9 := qy.frozen 9
  have qy_c10 := qy.cell 10 rfl
  have qy_f10 := qy.frozen 10
  have qy_c11 := qy.cell 11 rfl
  have qy_f11 := qy.frozen 11
  have qy_c12 := qy.cell 12 rfl
  have qy_f12 := qy.frozen 12
  have qy_c13 := qy.cell 13 rfl
  have qy_f13 := qy.frozen 13
  refine wp_region_held_drew (S := (fun w' => (∀ p : Addr, p.block < (V1).heap.size → w'.cell? p = (V1).cell? p) ∧ Below (V1).heap.size (V1) w')) (by kernel_rfl) ?hS61 (fun hHeld => ?rest61)
  case hS61 => ((try dsimp only); (((try go_split_ands); refine sn_of ?_; repeat' (first | with_reducible assumption | with_reducible exact Below.refl _ _ | with_reducible apply below_alloc | with_reducible apply below_drew1 | with_reducible apply below_drewN | (with_reducible apply below_step; with_reducible assumption) | (with_reducible apply below_sg2; (first | exact Nat.le_refl _ | (simp; done) | omega))))))
  case' rest61 => skip
  refine wpAnyH_take (i := 0) (oi := _) (v := ?v62) rfl (by kernel_rfl) (by kernel_rfl) (by kernel_rfl) (fun _ _ _ h => h) (Or.inl ⟨by rfl, ?hy62⟩) (by assumption) ?rest62
  case hy62 => ((intro w hSw; (try dsimp only at hSw); go_simp) <;> with_reducible rfl)
  case' rest62 => try simp only [List.getElem_toArray, List.getElem_cons_zero, List.getElem_cons_succ, Act.put, List.setIfInBounds_toArray, List.set_cons_zero, List.set_cons_succ]
  refine wpAnyH_take (i := 1) (oi := _) (v := ?v63) rfl (by kernel_rfl) (by kernel_rfl) (by kernel_rfl) (fun _ _ _ h => h) (Or.inl ⟨by rfl, ?hy63⟩) (by assumption) ?rest63
  case hy63 => ((intro w hSw; (try dsimp only at hSw); go_simp) <;> with_reducible rfl)
  case' rest63 => try simp only [List.getElem_toArray, List.getElem_cons_zero, List.getElem_cons_succ, Act.put, List.setIfInBounds_toArray, List.set_cons_zero, List.set_cons_succ]
  refine wpAnyH_take (i := 2) (oi := _) (v := ?v64) rfl (by kernel_rfl) (by kernel_rfl) (by kernel_rfl) (fun _ _ _ h => h) (Or.inl ⟨by rfl, ?hy64⟩) (by assumption) ?rest64
  case hy64 => ((intro w hSw; (try dsimp only at hSw); go_simp) <;> with_reducible rfl)
  case' rest64 => try simp only [List.getElem_toArray, List.getElem_cons_zero, List.getElem_cons_succ, Act.put, List.setIfInBounds_toArray, List.set_cons_zero, List.set_cons_succ]
  refine wpAnyH_take (i := 3) (oi := _) (v := ?v65) rfl (by kernel_rfl) (by kernel_rfl) (by kernel_rfl) (fun _ _ _ h => h) (Or.inl ⟨by rfl, ?hy65⟩) (by assumption) ?rest65
  case hy65 => ((intro w hSw; (try dsimp only at hSw); go_simp) <;> with_reducible rfl)
  case' rest65 => try simp only [List.getElem_toArray, List.getElem_cons_zero, List.getElem_cons_succ, Act.put, List.setIfInBounds_toArray, List.set_cons_zero, List.set_cons_succ]
  refine wpAnyH_take (i := 5) (oi := _) (v := ?v66) rfl (by kernel_rfl) (by kernel_rfl) (by kernel_rfl) (fun _ _ _ h => h) (Or.inl ⟨by rfl, ?hy66⟩) (by assumption) ?rest66
  case hy66 => ((intro w hSw; (try dsimp only at hSw); go_simp) <;> with_reducible rfl)
  case' rest66 => try simp only [List.getElem_toArray, List.getElem_cons_zero, List.getElem_cons_succ, Act.put, List.setIfInBounds_toArray, List.set_cons_zero, List.set_cons_succ]
  refine wpAnyH_ready (rs := [4]) (by kernel_rfl) (by simp) ?_
  refine AllReadyH.cons (o := _) rfl (fun K hK => ?_) AllReadyH.nil
  go_simp
  refine (HTK.out _ B1 m1 d1).mono ?_
  rintro e x1 ⟨rfl, hx1⟩
  try dsimp only
  refine hK.out _ _ ?hS69 (fun hHeld => ?rest69)
  case hS69 => ((try dsimp only); (((try go_split_ands); refine sn_of ?_; repeat' (first | with_reducible assumption | with_reducible exact Below.refl _ _ | with_reducible apply below_alloc | with_reducible apply below_drew1 | with_reducible apply below_drewN | (with_reducible apply below_step; with_reducible assumption) | (with_reducible apply below_sg2; (first | exact Nat.le_refl _ | (simp; done) | omega))))))
  case' rest69 => (clear hK K; try simp only [List.getElem_toArray, List.getElem_cons_zero, List.getElem_cons_succ, Act.put, List.setIfInBounds_toArray, List.set_cons_zero, List.set_cons_succ])
  refine wpAnyH_ready (rs := [6]) (by kernel_rfl) (by simp) ?_
  refine AllReadyH.cons (o := _) rfl (fun K hK => ?_) AllReadyH.nil
  go_simp
  refine (HSM.out _ B1 m1 d1 hP1'.hn (hP1'.drew.below hx1).sl (hs3.below (below_step hx1 (below_drew1 hg1)))).mono ?_
  rintro e y1 ⟨rfl, hy1⟩
  try dsimp only
  refine hK.out _ _ ?hS72 (fun hHeld => ?rest72)
  case hS72 => ((try dsimp only); (((try go_split_ands); refine sn_of ?_; repeat' (first | with_reducible assumption | with_reducible exact Below.refl _ _ | with_reducible apply below_alloc | with_reducible apply below_drew1 | with_reducible apply below_drewN | (with_reducible apply below_step; with_reducible assumption) | (with_reducible apply below_sg2; (first | exact Nat.le_refl _ | (simp; done) | omega))))))
  case' rest72 => (clear hK K; try simp only [List.getElem_toArray, List.getElem_cons_zero, List.getElem_cons_succ, Act.put, List.setIfInBounds_toArray, List.set_cons_zero, List.set_cons_succ])
  refine wpAnyH_take (i := 7) (oi := _) (v := ?v73) rfl (by kernel_rfl) (by kernel_rfl) (by kernel_rfl) (fun _ _ _ h => h) (Or.inl ⟨by rfl, ?hy73⟩) (by assumption) ?rest73
  case hy73 => ((intro w hSw; (try dsimp only at hSw); go_simp) <;> with_reducible rfl)
  case' rest73 => try simp only [List.getElem_toArray, List.getElem_cons_zero, List.getElem_cons_succ, Act.put, List.setIfInBounds_toArray, List.set_cons_zero, List.set_cons_succ]
  refine wpAnyH_take (i := 8) (oi := _) (v := ?v74) rfl (by kernel_rfl) (by kernel_rfl) (by kernel_rfl) (fun _ _ _ h => h) (Or.inl ⟨by rfl, ?hy74⟩) (by assumption) ?rest74
  case hy74 => ((intro w hSw; (try dsimp only at hSw); go_simp) <;> with_reducible rfl)
  case' rest74 => try simp only [List.getElem_toArray, List.getElem_cons_zero, List.getElem_cons_succ, Act.put, List.setIfInBounds_toArray, List.set_cons_zero, List.set_cons_succ]
  refine wpAnyH_done (by kernel_rfl) ?_ _
  have hEnd := hHeld.2
  repeat (clear hHeld)
  clear qx_c0 qx_f0 qx_c1 qx_f1 qx_c2 qx_f2 qx_c3 qx_f3 qx_c4 qx_f4 qx_c5 qx_f5 qx_c6 qx_f6 qx_c7 qx_f7 qx_c8 qx_f8 qx_c9 qx_f9 qx_c10 qx_f10 qx_c11 qx_f11 qx_c12 qx_f12 qx_c13 qx_f13
  clear qy_c0 qy_f0 qy_c1 qy_f1 qy_c2 qy_f2 qy_c3 qy_f3 qy_c4 qy_f4 qy_c5 qy_f5 qy_c6 qy_f6 qy_c7 qy_f7 qy_c8 qy_f8 qy_c9 qy_f9 qy_c10 qy_f10 qy_c11 qy_f11 qy_c12 qy_f12 qy_c13 qy_f13
  clear qx qy lx ly hx1 hy1
  have hc1 := below_step hEnd hg1
  clear hEnd
  have z := q3.below hc1 lq3
  have lz := z.lt
  have z_c0 := z.cell 0 rfl
  have z_f0 := z.frozen 0
  have z_c1 := z.cell 1 rfl
  have z_f1 := z.frozen 1
  have z_c2 := z.cell 2 rfl
  have z_f2 := z.frozen 2
  have z_c3 := z.cell 3 rfl
  have z_f3 := z.frozen 3
  have z_c4 := z.cell 4 rfl
  have z_f4 := z.frozen 4
  have z_c5 := z.cell 5 rfl
  have z_f5 := z.frozen 5
  have z_c6 := z.cell 6 rfl
  have z_f6 := z.frozen 6
  have z_c7 := z.cell 7 rfl
  have z_f7 := z.frozen 7
  have z_c8 := z.cell 8 rfl
  have z_f8 := z.frozen 8
  have z_c9 := z.cell 9 rfl
  have z_f9 := z.frozen 9
  have z_c10 := z.cell 10 rfl
  have z_f10 := z.frozen 10
  have z_c11 := z.cell 11 rfl
  have z_f11 := z.frozen 11
  have z_c12 := z.cell 12 rfl
  have z_f12 := z.frozen 12
  have z_c13 := z.cell 13 rfl
  have z_f13 := z.frozen 13
  go_wp2_with fail
  refine (known_20 _).mono ?_
  rintro e w4 ⟨rfl, hb4⟩
  go_wp2_with fail
  go_ret
  exact ⟨rfl, below_step hb4 (below_step hc1 hbw3)⟩
theorem sdomsgBack_walk (M : Ms) (A : Option Addr) (n c : Nat) (w : World) (hn : n = M.data.length) (hs : Sl w A (M.data.map bv)) (hu1 : M.size ≤ 4294967295) (hu2 : M.code ≤ 4294967295) (hu3 : M.sum ≤ 65535) :
    Calls Try.prog 9 #[.agg (msV M A n c)] w (TrueB w) := by
  by_cases hbig : 1000 < n
  · have q0 := blk_one w 43 (msV M A n c)
    have hbw := below_alloc (Below.refl w.heap.size w) (.cells (msV M A n c) 43)
    clear hn hs hu1 hu2 hu3
    obtain ⟨kind, ix, sub, tg, la, cr, sz, size, code, data, sq, bl, em, sum⟩ := M
    simp only [msV] at *
    go_enter Try.func9, Try.ntmps9
    go_wp2_with fail
    refine (known_20 _).mono ?_
    rintro e w1 ⟨rfl, hb1⟩
    go_wp2_with fail
    go_ret
    exact ⟨rfl, below_step hb1 hbw⟩
  · have h1000 : n ≤ 1000 := by omega
    cases hcan : canB M
    · exact sdomsgBack_no M A n c w hn hs hu1 hu2 hu3 h1000 hcan
    · have k1 : 1 ≤ M.kind ∧ M.kind ≤ 21 := by
        have hf0 := (can_range M hcan).2.2
        refine ⟨?_, ?_⟩
        · rcases Int.lt_or_le M.kind 1 with h | h
          · exact absurd (form_zero _ (.inl h)) hf0
          · exact h
        · rcases Int.lt_or_le 21 M.kind with h | h
          · exact absurd (form_zero _ (.inr h)) hf0
          · exact h
      rcases (show M.kind = 1 ∨ (2 ≤ M.kind ∧ M.kind ≤ 11) ∨ (12 ≤ M.kind ∧ M.kind ≤ 20) ∨ M.kind = 21 by omega) with h | ⟨h, h'⟩ | ⟨h, h'⟩ | h
      · exact sdomsgBack_i M A n c w hn hs hu1 hu2 hu3 h1000 hcan h
      · exact sdomsgBack_ii M A n c w hn hs hu1 hu2 hu3 h1000 hcan h h'
      · exact sdomsgBack_iii M A n c w hn hs hu1 hu2 hu3 h1000 hcan h h'
      · exact sdomsgBack_iv M A n c w hn hs hu1 hu2 hu3 h1000 hcan h
end Go.Proofs.Ytcncbmlacphclaa
