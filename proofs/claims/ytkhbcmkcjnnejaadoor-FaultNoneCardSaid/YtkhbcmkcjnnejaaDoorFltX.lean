/- The walk of FaultNone. -/
import Derived.Test.YtkhbcmkcjnnejaaDoorFltW
namespace Go.Proofs.YtkhbcmkcjnnejaaDoor
set_option linter.unusedVariables false
set_option linter.unusedSimpArgs false
set_option linter.unnecessarySimpa false
open Go.RowKit Go.Extern.Stop Go.Stop Go.Extern
set_option maxRecDepth 20000
set_option maxHeartbeats 8000000

theorem faultNone_walk (a : Nat → Addr) (M : Nat) (c : Nat) (t : List UInt8) (w : World) (hc : c ≤ 4294967295) (hG : GV w a M) (hM : M ≤ w.heap.size) :
    Calls Tryd.prog 6 #[.int .u32 (c : Nat), .string (bs t)] w (TrueB w) := by
  obtain ⟨s, hs⟩ : ∃ s, s = bs t := ⟨_, rfl⟩
  rw [← hs]
  have HS := hide hs
  clear hs
  by_cases h5 : 1000 < s.size
  · have HK := hide (la_known a M w hG hM)
    clear hG hM
    go_enter Tryd.func6, Tryd.ntmps6
    go_wp2_with fail
    refine HK.out.mono ?_
    rintro e w1 ⟨rfl, hb⟩
    go_wp2_with fail
    go_ret
    exact (⟨rfl, hb⟩ : TrueB w _ _)
  have q0 := blk_one w 28 #[.nilIface]
  have hb0 := below_alloc (Below.refl w.heap.size w) (.cells #[.nilIface] 28)
  obtain ⟨W0, hW0⟩ : ∃ W, W = w.alloc (.cells #[.nilIface] 28) := ⟨_, rfl⟩
  rw [← hW0] at q0 hb0
  have HW0 := hide hW0
  have HU := hide (fa_Under0 c a W0 hc (hG.below hb0))
  have HN := hide (fun W (h : GV W a M) => fa_New c a W hc h)
  have K0 := hide (show Blk W0 w.heap.size 28 #[.nilIface] ∧ Below w.heap.size w W0 ∧ GV W0 a M ∧ M ≤ W0.heap.size from ⟨q0, hb0, hG.below hb0, Nat.le_trans hM hb0.size⟩)
  have HC := hide (cntN_le c hc)
  obtain ⟨k, hk⟩ : ∃ k, k = cntN c := ⟨_, rfl⟩
  rw [← hk] at HU HN HC
  have HKE := hide (show goodE (.sent (famN k)) from by rw [hk]; exact good_cnt c)
  clear q0 hb0 hW0 hG hM hk hc
  go_enter Tryd.func6, Tryd.ntmps6
  go_wp2_with fail
  rw [← HW0.out]
  refine HU.out.mono ?_
  rintro e w1 ⟨f, rfl, hC, hb⟩
  obtain ⟨tf, xf, rfl⟩ := ch_iface hC
  have q1 := blk_one w1 28 #[.iface tf xf]
  have hb1 := below_alloc (Below.refl w1.heap.size w1) (.cells #[.iface tf xf] 28)
  have K1 := hide (show Blk _ w.heap.size 28 #[.nilIface] ∧ FK w a M w1.heap.size (.sent (famN k)) [k] (.iface tf xf) _ from ⟨(K0.out.1.below hb K0.out.1.lt).below hb1 (K0.out.1.below hb K0.out.1.lt).lt, q1, hC.below hb1, (K0.out.2.2.1.below hb).below hb1, below_step hb1 (below_step hb K0.out.2.1), Nat.le_trans K0.out.2.2.2 (Nat.le_trans hb.size hb1.size)⟩)
  clear hC hb q1 hb1
  go_wp2_with fail
  obtain ⟨W1, hW1⟩ : ∃ W, W = w1.alloc (.cells #[.iface tf xf] 28) := ⟨_, rfl⟩
  rw [← hW1] at K1 ⊢
  clear hW1
  refine (HN.out W1 K1.out.2.gv).mono ?_
  rintro e w2 ⟨g, rfl, hC, hb⟩
  obtain ⟨tg, xg, rfl⟩ := ch_iface hC
  have q2 := blk_one w2 28 #[.iface tg xg]
  have hb2 := below_alloc (Below.refl w2.heap.size w2) (.cells #[.iface tg xg] 28)
  have R2 := (K1.out.2.below hb).below hb2
  have K2 := hide (show Blk _ w.heap.size 28 #[.nilIface] ∧ FK w a M w1.heap.size (.sent (famN k)) [k] (.iface tf xf) _ ∧ FK w a M w2.heap.size (.sent (famN k)) [k] (.iface tg xg) _ from ⟨(K1.out.1.below hb K1.out.1.lt).below hb2 (K1.out.1.below hb K1.out.1.lt).lt, R2, q2, hC.below hb2, R2.gv, R2.be, R2.m⟩)
  clear hC hb q2 hb2 R2
  go_wp2_with fail
  obtain ⟨W2, hW2⟩ : ∃ W, W = w2.alloc (.cells #[.iface tg xg] 28) := ⟨_, rfl⟩
  rw [← hW2] at K2 ⊢
  clear hW2
  obtain ⟨p1, hp1⟩ : ∃ p, p = w1.heap.size := ⟨_, rfl⟩
  obtain ⟨p2, hp2⟩ : ∃ p, p = w2.heap.size := ⟨_, rfl⟩
  rw [← hp1, ← hp2] at K2 ⊢
  clear hp1 hp2 HW0 K0 K1 HU HN
  have HCo0 := hide (fun W => fa_Code0 W)
  have HFa0 := hide (fun W => fa_Family0 W)
  have HDe0 := hide (fun W => fa_Depth0 W)
  have HHa0 := hide (fun W => fa_Has0 c W)
  have HSa0 := hide (fun W => fa_Say0 W)
  rw [show bs [] = (⟨#[]⟩ : ByteArray) from rfl] at HSa0
  have HSs0 := hide (fun W => fa_Says0 t W)
  have HCo := hide (fun b v W (h : FK w a M b (.sent (famN k)) [k] v W) => fa_Code a M _ _ _ v W h.gv h.ch)
  have HFa := hide (fun b v W (h : FK w a M b (.sent (famN k)) [k] v W) => fa_Family a M _ _ v W h.gv HKE.out h.ch)
  rw [show famE (.sent (famN k)) = famN k from rfl] at HFa
  obtain ⟨F, hF⟩ : ∃ F, F = famN k := ⟨_, rfl⟩
  rw [← hF] at HCo HFa K2 HKE
  have HDe := hide (fun b v W (h : FK w a M b (.sent F) [k] v W) => fa_Depth a M _ _ v W h.gv h.ch h.m (by simp))
  rw [show (([k].length : Nat) : Int) = 1 from rfl] at HDe
  have HSa := hide (fun b v W (h : FK w a M b (.sent F) [k] v W) => fa_Say a M _ _ _ v W h.gv h.ch (fun x hx => by rw [List.mem_singleton.1 hx]; exact HC.out) (Nat.zero_le _) (Nat.zero_le _) h.m)
  obtain ⟨T2, hT2⟩ : ∃ T, T = bs (sayC [k] (endT (.sent F))) := ⟨_, rfl⟩
  rw [← hT2] at HSa
  have HSs := hide (fun b v W (h : FK w a M b (.sent F) [k] v W) => fa_Says a t _ _ v W h.ch)
  rw [show isT (.sent F) t = false from rfl] at HSs
  rw [← HS.out] at HSs0 HSs
  have HL := hide (fun b v W (h : FK w a M b (.sent F) [k] v W) => la_known a M W h.gv h.m)
  clear hF hT2 HKE HC
  refine wp_region_held_drew (S := (fun w' => (w'.cell? ⟨w.heap.size, 0, none⟩ = some .nilIface ∧ w'.cell? ⟨p1, 0, none⟩ = some (.iface tf xf) ∧ w'.cell? ⟨p2, 0, none⟩ = some (.iface tg xg)) ∧ Blk w' w.heap.size 28 #[.nilIface] ∧ FK w a M p1 (.sent F) [k] (.iface tf xf) w' ∧ FK w a M p2 (.sent F) [k] (.iface tg xg) w')) (by kernel_rfl) ?hS1 (fun hHeld => ?rest1)
  case hS1 => ((try dsimp only); (exact ⟨⟨K2.out.1.cell 0 (u := .nilIface) rfl, K2.out.2.1.box.cell 0 (u := .iface tf xf) rfl, K2.out.2.2.box.cell 0 (u := .iface tg xg) rfl⟩, K2.out.1.below (below_drew1 (Below.refl _ _)) K2.out.1.lt, K2.out.2.1.below (below_drew1 (Below.refl _ _)), K2.out.2.2.below (below_drew1 (Below.refl _ _))⟩))
  case' rest1 => skip
  have HH := hide hHeld
  clear hHeld K2
  refine wpAnyH_take (i := 0) (oi := _) (v := ?v2) rfl (by kernel_rfl) (by kernel_rfl) (by kernel_rfl) (fun _ _ _ h => h) (Or.inl ⟨by rfl, ?hy2⟩) (by assumption) ?rest2
  case hy2 => ((intro w hSw; (try dsimp only at hSw); go_simp) <;> with_reducible rfl)
  case' rest2 => try simp only [List.getElem_toArray, List.getElem_cons_zero, List.getElem_cons_succ, Act.put, List.setIfInBounds_toArray, List.set_cons_zero, List.set_cons_succ]
  refine wpAnyH_ready (rs := [1]) (by kernel_rfl) (by simp) ?_
  refine AllReadyH.cons (o := _) rfl (fun K hK => ?_) AllReadyH.nil
  go_simp
  refine (HCo0.out _).mono ?_
  rintro e w3 ⟨rfl, hb⟩
  try dsimp only
  have HH2 := hide (And.intro (HH.out.2.1.below hb HH.out.2.1.lt) (And.intro (HH.out.2.2.1.below hb) (HH.out.2.2.2.below hb)))
  refine hK.out _ _ ?hS5 (fun hHeld => ?rest5)
  case hS5 => ((try dsimp only); (exact ⟨⟨HH2.out.1.cell 0 (u := .nilIface) rfl, HH2.out.2.1.box.cell 0 (u := .iface tf xf) rfl, HH2.out.2.2.box.cell 0 (u := .iface tg xg) rfl⟩, HH2.out⟩))
  case' rest5 => (clear hK K; try simp only [List.getElem_toArray, List.getElem_cons_zero, List.getElem_cons_succ, Act.put, List.setIfInBounds_toArray, List.set_cons_zero, List.set_cons_succ])
  clear HH HH2 hb
  have HH := hide hHeld
  clear hHeld
  refine wpAnyH_take (i := 2) (oi := _) (v := ?v6) rfl (by kernel_rfl) (by kernel_rfl) (by kernel_rfl) (fun _ _ _ h => h) (Or.inl ⟨by rfl, ?hy6⟩) (by assumption) ?rest6
  case hy6 => ((intro w hSw; (try dsimp only at hSw); go_simp) <;> with_reducible rfl)
  case' rest6 => try simp only [List.getElem_toArray, List.getElem_cons_zero, List.getElem_cons_succ, Act.put, List.setIfInBounds_toArray, List.set_cons_zero, List.set_cons_succ]
  refine wpAnyH_take (i := 3) (oi := _) (v := ?v7) rfl (by kernel_rfl) (by kernel_rfl) (by kernel_rfl) (fun _ _ _ h => h) (Or.inl ⟨by rfl, ?hy7⟩) (by assumption) ?rest7
  case hy7 => ((intro w hSw; (try dsimp only at hSw); go_simp) <;> with_reducible rfl)
  case' rest7 => try simp only [List.getElem_toArray, List.getElem_cons_zero, List.getElem_cons_succ, Act.put, List.setIfInBounds_toArray, List.set_cons_zero, List.set_cons_succ]
  refine wpAnyH_take (i := 4) (oi := _) (v := ?v8) rfl (by kernel_rfl) (by kernel_rfl) (by kernel_rfl) (fun _ _ _ h => h) (Or.inl ⟨by rfl, ?hy8⟩) (by assumption) ?rest8
  case hy8 => ((intro w hSw; (try dsimp only at hSw); go_simp) <;> with_reducible rfl)
  case' rest8 => try simp only [List.getElem_toArray, List.getElem_cons_zero, List.getElem_cons_succ, Act.put, List.setIfInBounds_toArray, List.set_cons_zero, List.set_cons_succ]
  refine wpAnyH_ready (rs := [5]) (by kernel_rfl) (by simp) ?_
  refine AllReadyH.cons (o := _) rfl (fun K hK => ?_) AllReadyH.nil
  go_simp
  refine (HFa0.out _).mono ?_
  rintro e w3 ⟨rfl, hb⟩
  try dsimp only
  have HH2 := hide (And.intro (HH.out.2.1.below hb HH.out.2.1.lt) (And.intro (HH.out.2.2.1.below hb) (HH.out.2.2.2.below hb)))
  refine hK.out _ _ ?hS11 (fun hHeld => ?rest11)
  case hS11 => ((try dsimp only); (exact ⟨⟨HH2.out.1.cell 0 (u := .nilIface) rfl, HH2.out.2.1.box.cell 0 (u := .iface tf xf) rfl, HH2.out.2.2.box.cell 0 (u := .iface tg xg) rfl⟩, HH2.out⟩))
  case' rest11 => (clear hK K; try simp only [List.getElem_toArray, List.getElem_cons_zero, List.getElem_cons_succ, Act.put, List.setIfInBounds_toArray, List.set_cons_zero, List.set_cons_succ])
  clear HH HH2 hb
  have HH := hide hHeld
  clear hHeld
  refine wpAnyH_take (i := 6) (oi := _) (v := ?v12) rfl (by kernel_rfl) (by kernel_rfl) (by kernel_rfl) (fun _ _ _ h => h) (Or.inl ⟨by rfl, ?hy12⟩) (by assumption) ?rest12
  case hy12 => ((intro w hSw; (try dsimp only at hSw); go_simp) <;> with_reducible rfl)
  case' rest12 => try simp only [List.getElem_toArray, List.getElem_cons_zero, List.getElem_cons_succ, Act.put, List.setIfInBounds_toArray, List.set_cons_zero, List.set_cons_succ]
  refine wpAnyH_take (i := 7) (oi := _) (v := ?v13) rfl (by kernel_rfl) (by kernel_rfl) (by kernel_rfl) (fun _ _ _ h => h) (Or.inl ⟨by rfl, ?hy13⟩) (by assumption) ?rest13
  case hy13 => ((intro w hSw; (try dsimp only at hSw); go_simp) <;> with_reducible rfl)
  case' rest13 => try simp only [List.getElem_toArray, List.getElem_cons_zero, List.getElem_cons_succ, Act.put, List.setIfInBounds_toArray, List.set_cons_zero, List.set_cons_succ]
  refine wpAnyH_take (i := 8) (oi := _) (v := ?v14) rfl (by kernel_rfl) (by kernel_rfl) (by kernel_rfl) (fun _ _ _ h => h) (Or.inl ⟨by rfl, ?hy14⟩) (by assumption) ?rest14
  case hy14 => ((intro w hSw; (try dsimp only at hSw); go_simp) <;> with_reducible rfl)
  case' rest14 => try simp only [List.getElem_toArray, List.getElem_cons_zero, List.getElem_cons_succ, Act.put, List.setIfInBounds_toArray, List.set_cons_zero, List.set_cons_succ]
  refine wpAnyH_take (i := 9) (oi := _) (v := ?v15) rfl (by kernel_rfl) (by kernel_rfl) (by kernel_rfl) (fun _ _ _ h => h) (Or.inl ⟨by rfl, ?hy15⟩) (by assumption) ?rest15
  case hy15 => ((intro w hSw; (try dsimp only at hSw); go_simp) <;> with_reducible rfl)
  case' rest15 => try simp only [List.getElem_toArray, List.getElem_cons_zero, List.getElem_cons_succ, Act.put, List.setIfInBounds_toArray, List.set_cons_zero, List.set_cons_succ]
  refine wpAnyH_ready (rs := [10]) (by kernel_rfl) (by simp) ?_
  refine AllReadyH.cons (o := _) rfl (fun K hK => ?_) AllReadyH.nil
  go_simp
  refine (HDe0.out _).mono ?_
  rintro e w3 ⟨rfl, hb⟩
  try dsimp only
  have HH2 := hide (And.intro (HH.out.2.1.below hb HH.out.2.1.lt) (And.intro (HH.out.2.2.1.below hb) (HH.out.2.2.2.below hb)))
  refine hK.out _ _ ?hS18 (fun hHeld => ?rest18)
  case hS18 => ((try dsimp only); (exact ⟨⟨HH2.out.1.cell 0 (u := .nilIface) rfl, HH2.out.2.1.box.cell 0 (u := .iface tf xf) rfl, HH2.out.2.2.box.cell 0 (u := .iface tg xg) rfl⟩, HH2.out⟩))
  case' rest18 => (clear hK K; try simp only [List.getElem_toArray, List.getElem_cons_zero, List.getElem_cons_succ, Act.put, List.setIfInBounds_toArray, List.set_cons_zero, List.set_cons_succ])
  clear HH HH2 hb
  have HH := hide hHeld
  clear hHeld
  refine wpAnyH_take (i := 11) (oi := _) (v := ?v19) rfl (by kernel_rfl) (by kernel_rfl) (by kernel_rfl) (fun _ _ _ h => h) (Or.inl ⟨by rfl, ?hy19⟩) (by assumption) ?rest19
  case hy19 => ((intro w hSw; (try dsimp only at hSw); go_simp) <;> with_reducible rfl)
  case' rest19 => try simp only [List.getElem_toArray, List.getElem_cons_zero, List.getElem_cons_succ, Act.put, List.setIfInBounds_toArray, List.set_cons_zero, List.set_cons_succ]
  refine wpAnyH_take (i := 12) (oi := _) (v := ?v20) rfl (by kernel_rfl) (by kernel_rfl) (by kernel_rfl) (fun _ _ _ h => h) (Or.inl ⟨by rfl, ?hy20⟩) (by assumption) ?rest20
  case hy20 => ((intro w hSw; (try dsimp only at hSw); go_simp) <;> with_reducible rfl)
  case' rest20 => try simp only [List.getElem_toArray, List.getElem_cons_zero, List.getElem_cons_succ, Act.put, List.setIfInBounds_toArray, List.set_cons_zero, List.set_cons_succ]
  refine wpAnyH_take (i := 13) (oi := _) (v := ?v21) rfl (by kernel_rfl) (by kernel_rfl) (by kernel_rfl) (fun _ _ _ h => h) (Or.inl ⟨by rfl, ?hy21⟩) (by assumption) ?rest21
  case hy21 => ((intro w hSw; (try dsimp only at hSw); go_simp) <;> with_reducible rfl)
  case' rest21 => try simp only [List.getElem_toArray, List.getElem_cons_zero, List.getElem_cons_succ, Act.put, List.setIfInBounds_toArray, List.set_cons_zero, List.set_cons_succ]
  refine wpAnyH_take (i := 14) (oi := _) (v := ?v22) rfl (by kernel_rfl) (by kernel_rfl) (by kernel_rfl) (fun _ _ _ h => h) (Or.inl ⟨by rfl, ?hy22⟩) (by assumption) ?rest22
  case hy22 => ((intro w hSw; (try dsimp only at hSw); go_simp) <;> with_reducible rfl)
  case' rest22 => try simp only [List.getElem_toArray, List.getElem_cons_zero, List.getElem_cons_succ, Act.put, List.setIfInBounds_toArray, List.set_cons_zero, List.set_cons_succ]
  refine wpAnyH_take (i := 15) (oi := _) (v := ?v23) rfl (by kernel_rfl) (by kernel_rfl) (by kernel_rfl) (fun _ _ _ h => h) (Or.inl ⟨by rfl, ?hy23⟩) (by assumption) ?rest23
  case hy23 => ((intro w hSw; (try dsimp only at hSw); go_simp) <;> with_reducible rfl)
  case' rest23 => try simp only [List.getElem_toArray, List.getElem_cons_zero, List.getElem_cons_succ, Act.put, List.setIfInBounds_toArray, List.set_cons_zero, List.set_cons_succ]
  refine wpAnyH_ready (rs := [16]) (by kernel_rfl) (by simp) ?_
  refine AllReadyH.cons (o := _) rfl (fun K hK => ?_) AllReadyH.nil
  go_simp
  refine (HHa0.out _).mono ?_
  rintro e w3 ⟨rfl, hb⟩
  try dsimp only
  have HH2 := hide (And.intro (HH.out.2.1.below hb HH.out.2.1.lt) (And.intro (HH.out.2.2.1.below hb) (HH.out.2.2.2.below hb)))
  refine hK.out _ _ ?hS26 (fun hHeld => ?rest26)
  case hS26 => ((try dsimp only); (exact ⟨⟨HH2.out.1.cell 0 (u := .nilIface) rfl, HH2.out.2.1.box.cell 0 (u := .iface tf xf) rfl, HH2.out.2.2.box.cell 0 (u := .iface tg xg) rfl⟩, HH2.out⟩))
  case' rest26 => (clear hK K; try simp only [List.getElem_toArray, List.getElem_cons_zero, List.getElem_cons_succ, Act.put, List.setIfInBounds_toArray, List.set_cons_zero, List.set_cons_succ])
  clear HH HH2 hb
  have HH := hide hHeld
  clear hHeld
  refine wpAnyH_take (i := 17) (oi := _) (v := ?v27) rfl (by kernel_rfl) (by kernel_rfl) (by kernel_rfl) (fun _ _ _ h => h) (Or.inl ⟨by rfl, ?hy27⟩) (by assumption) ?rest27
  case hy27 => ((intro w hSw; (try dsimp only at hSw); go_simp) <;> with_reducible rfl)
  case' rest27 => try simp only [List.getElem_toArray, List.getElem_cons_zero, List.getElem_cons_succ, Act.put, List.setIfInBounds_toArray, List.set_cons_zero, List.set_cons_succ]
  refine wpAnyH_take (i := 18) (oi := _) (v := ?v28) rfl (by kernel_rfl) (by kernel_rfl) (by kernel_rfl) (fun _ _ _ h => h) (Or.inl ⟨by rfl, ?hy28⟩) (by assumption) ?rest28
  case hy28 => ((intro w hSw; (try dsimp only at hSw); go_simp) <;> with_reducible rfl)
  case' rest28 => try simp only [List.getElem_toArray, List.getElem_cons_zero, List.getElem_cons_succ, Act.put, List.setIfInBounds_toArray, List.set_cons_zero, List.set_cons_succ]
  refine wpAnyH_take (i := 19) (oi := _) (v := ?v29) rfl (by kernel_rfl) (by kernel_rfl) (by kernel_rfl) (fun _ _ _ h => h) (Or.inl ⟨by rfl, ?hy29⟩) (by assumption) ?rest29
  case hy29 => ((intro w hSw; (try dsimp only at hSw); go_simp) <;> with_reducible rfl)
  case' rest29 => try simp only [List.getElem_toArray, List.getElem_cons_zero, List.getElem_cons_succ, Act.put, List.setIfInBounds_toArray, List.set_cons_zero, List.set_cons_succ]
  refine wpAnyH_take (i := 20) (oi := _) (v := ?v30) rfl (by kernel_rfl) (by kernel_rfl) (by kernel_rfl) (fun _ _ _ h => h) (Or.inl ⟨by rfl, ?hy30⟩) (by assumption) ?rest30
  case hy30 => ((intro w hSw; (try dsimp only at hSw); go_simp) <;> with_reducible rfl)
  case' rest30 => try simp only [List.getElem_toArray, List.getElem_cons_zero, List.getElem_cons_succ, Act.put, List.setIfInBounds_toArray, List.set_cons_zero, List.set_cons_succ]
  refine wpAnyH_ready (rs := [21]) (by kernel_rfl) (by simp) ?_
  refine AllReadyH.cons (o := _) rfl (fun K hK => ?_) AllReadyH.nil
  go_simp
  refine (HSa0.out _).mono ?_
  rintro e w3 ⟨rfl, hb⟩
  try dsimp only
  have HH2 := hide (And.intro (HH.out.2.1.below hb HH.out.2.1.lt) (And.intro (HH.out.2.2.1.below hb) (HH.out.2.2.2.below hb)))
  refine hK.out _ _ ?hS33 (fun hHeld => ?rest33)
  case hS33 => ((try dsimp only); (exact ⟨⟨HH2.out.1.cell 0 (u := .nilIface) rfl, HH2.out.2.1.box.cell 0 (u := .iface tf xf) rfl, HH2.out.2.2.box.cell 0 (u := .iface tg xg) rfl⟩, HH2.out⟩))
  case' rest33 => (clear hK K; try simp only [List.getElem_toArray, List.getElem_cons_zero, List.getElem_cons_succ, Act.put, List.setIfInBounds_toArray, List.set_cons_zero, List.set_cons_succ])
  clear HH HH2 hb
  have HH := hide hHeld
  clear hHeld
  refine wpAnyH_take (i := 22) (oi := _) (v := ?v34) rfl (by kernel_rfl) (by kernel_rfl) (by kernel_rfl) (fun _ _ _ h => h) (Or.inl ⟨by rfl, ?hy34⟩) (by assumption) ?rest34
  case hy34 => ((intro w hSw; (try dsimp only at hSw); go_simp) <;> with_reducible rfl)
  case' rest34 => try simp only [List.getElem_toArray, List.getElem_cons_zero, List.getElem_cons_succ, Act.put, List.setIfInBounds_toArray, List.set_cons_zero, List.set_cons_succ]
  refine wpAnyH_take (i := 23) (oi := _) (v := ?v35) rfl (by kernel_rfl) (by kernel_rfl) (by kernel_rfl) (fun _ _ _ h => h) (Or.inl ⟨by rfl, ?hy35⟩) (by assumption) ?rest35
  case hy35 => ((intro w hSw; (try dsimp only at hSw); go_simp) <;> with_reducible rfl)
  case' rest35 => try simp only [List.getElem_toArray, List.getElem_cons_zero, List.getElem_cons_succ, Act.put, List.setIfInBounds_toArray, List.set_cons_zero, List.set_cons_succ]
  refine wpAnyH_take (i := 24) (oi := _) (v := ?v36) rfl (by kernel_rfl) (by kernel_rfl) (by kernel_rfl) (fun _ _ _ h => h) (Or.inl ⟨by rfl, ?hy36⟩) (by assumption) ?rest36
  case hy36 => ((intro w hSw; (try dsimp only at hSw); go_simp) <;> with_reducible rfl)
  case' rest36 => try simp only [List.getElem_toArray, List.getElem_cons_zero, List.getElem_cons_succ, Act.put, List.setIfInBounds_toArray, List.set_cons_zero, List.set_cons_succ]
  refine wpAnyH_take (i := 25) (oi := _) (v := ?v37) rfl (by kernel_rfl) (by kernel_rfl) (by kernel_rfl) (fun _ _ _ h => h) (Or.inl ⟨by rfl, ?hy37⟩) (by assumption) ?rest37
  case hy37 => ((intro w hSw; (try dsimp only at hSw); go_simp) <;> with_reducible rfl)
  case' rest37 => try simp only [List.getElem_toArray, List.getElem_cons_zero, List.getElem_cons_succ, Act.put, List.setIfInBounds_toArray, List.set_cons_zero, List.set_cons_succ]
  refine wpAnyH_take (i := 26) (oi := _) (v := ?v38) rfl (by kernel_rfl) (by kernel_rfl) (by kernel_rfl) (fun _ _ _ h => h) (Or.inl ⟨by rfl, ?hy38⟩) (by assumption) ?rest38
  case hy38 => ((intro w hSw; (try dsimp only at hSw); go_simp) <;> with_reducible rfl)
  case' rest38 => try simp only [List.getElem_toArray, List.getElem_cons_zero, List.getElem_cons_succ, Act.put, List.setIfInBounds_toArray, List.set_cons_zero, List.set_cons_succ]
  refine wpAnyH_ready (rs := [27]) (by kernel_rfl) (by simp) ?_
  refine AllReadyH.cons (o := _) rfl (fun K hK => ?_) AllReadyH.nil
  go_simp
  refine (HSs0.out _).mono ?_
  rintro e w3 ⟨rfl, hb⟩
  try dsimp only
  have HH2 := hide (And.intro (HH.out.2.1.below hb HH.out.2.1.lt) (And.intro (HH.out.2.2.1.below hb) (HH.out.2.2.2.below hb)))
  refine hK.out _ _ ?hS41 (fun hHeld => ?rest41)
  case hS41 => ((try dsimp only); (exact ⟨⟨HH2.out.1.cell 0 (u := .nilIface) rfl, HH2.out.2.1.box.cell 0 (u := .iface tf xf) rfl, HH2.out.2.2.box.cell 0 (u := .iface tg xg) rfl⟩, HH2.out⟩))
  case' rest41 => (clear hK K; try simp only [List.getElem_toArray, List.getElem_cons_zero, List.getElem_cons_succ, Act.put, List.setIfInBounds_toArray, List.set_cons_zero, List.set_cons_succ])
  clear HH HH2 hb
  have HH := hide hHeld
  clear hHeld
  refine wpAnyH_take (i := 28) (oi := _) (v := ?v42) rfl (by kernel_rfl) (by kernel_rfl) (by kernel_rfl) (fun _ _ _ h => h) (Or.inl ⟨by rfl, ?hy42⟩) (by assumption) ?rest42
  case hy42 => ((intro w hSw; (try dsimp only at hSw); go_simp) <;> with_reducible rfl)
  case' rest42 => try simp only [List.getElem_toArray, List.getElem_cons_zero, List.getElem_cons_succ, Act.put, List.setIfInBounds_toArray, List.set_cons_zero, List.set_cons_succ]
  refine wpAnyH_take (i := 29) (oi := _) (v := ?v43) rfl (by kernel_rfl) (by kernel_rfl) (by kernel_rfl) (fun _ _ _ h => h) (Or.inl ⟨by rfl, ?hy43⟩) (by assumption) ?rest43
  case hy43 => ((intro w hSw; (try dsimp only at hSw); go_simp) <;> with_reducible rfl)
  case' rest43 => try simp only [List.getElem_toArray, List.getElem_cons_zero, List.getElem_cons_succ, Act.put, List.setIfInBounds_toArray, List.set_cons_zero, List.set_cons_succ]
  refine wpAnyH_take (i := 30) (oi := _) (v := ?v44) rfl (by kernel_rfl) (by kernel_rfl) (by kernel_rfl) (fun _ _ _ h => h) (Or.inl ⟨by rfl, ?hy44⟩) (by assumption) ?rest44
  case hy44 => ((intro w hSw; (try dsimp only at hSw); go_simp) <;> with_reducible rfl)
  case' rest44 => try simp only [List.getElem_toArray, List.getElem_cons_zero, List.getElem_cons_succ, Act.put, List.setIfInBounds_toArray, List.set_cons_zero, List.set_cons_succ]
  refine wpAnyH_take (i := 31) (oi := _) (v := ?v45) rfl (by kernel_rfl) (by kernel_rfl) (by kernel_rfl) (fun _ _ _ h => h) (Or.inl ⟨by rfl, ?hy45⟩) (by assumption) ?rest45
  case hy45 => ((intro w hSw; (try dsimp only at hSw); go_simp) <;> with_reducible rfl)
  case' rest45 => try simp only [List.getElem_toArray, List.getElem_cons_zero, List.getElem_cons_succ, Act.put, List.setIfInBounds_toArray, List.set_cons_zero, List.set_cons_succ]
  refine wpAnyH_take (i := 33) (oi := _) (v := ?v46) rfl (by kernel_rfl) (by kernel_rfl) (by kernel_rfl) (fun _ _ _ h => h) (Or.inl ⟨by rfl, ?hy46⟩) (by assumption) ?rest46
  case hy46 => ((intro w hSw; (try dsimp only at hSw); go_simp) <;> with_reducible rfl)
  case' rest46 => try simp only [List.getElem_toArray, List.getElem_cons_zero, List.getElem_cons_succ, Act.put, List.setIfInBounds_toArray, List.set_cons_zero, List.set_cons_succ]
  refine wpAnyH_ready (rs := [32]) (by kernel_rfl) (by simp) ?_
  refine AllReadyH.cons (o := _) rfl (fun K hK => ?_) AllReadyH.nil
  go_simp
  refine (HCo.out _ _ _ HH.out.2.2.1).mono ?_
  rintro e w3 ⟨rfl, hb⟩
  try dsimp only
  have HH2 := hide (And.intro (HH.out.2.1.below hb HH.out.2.1.lt) (And.intro (HH.out.2.2.1.below hb) (HH.out.2.2.2.below hb)))
  refine hK.out _ _ ?hS49 (fun hHeld => ?rest49)
  case hS49 => ((try dsimp only); (exact ⟨⟨HH2.out.1.cell 0 (u := .nilIface) rfl, HH2.out.2.1.box.cell 0 (u := .iface tf xf) rfl, HH2.out.2.2.box.cell 0 (u := .iface tg xg) rfl⟩, HH2.out⟩))
  case' rest49 => (clear hK K; try simp only [List.getElem_toArray, List.getElem_cons_zero, List.getElem_cons_succ, Act.put, List.setIfInBounds_toArray, List.set_cons_zero, List.set_cons_succ])
  clear HH HH2 hb
  have HH := hide hHeld
  clear hHeld
  refine wpAnyH_ready (rs := [34]) (by kernel_rfl) (by simp) ?_
  refine AllReadyH.cons (o := _) rfl (fun K hK => ?_) AllReadyH.nil
  go_simp
  refine (HCo.out _ _ _ HH.out.2.2.2).mono ?_
  rintro e w3 ⟨rfl, hb⟩
  try dsimp only
  have HH2 := hide (And.intro (HH.out.2.1.below hb HH.out.2.1.lt) (And.intro (HH.out.2.2.1.below hb) (HH.out.2.2.2.below hb)))
  refine hK.out _ _ ?hS52 (fun hHeld => ?rest52)
  case hS52 => ((try dsimp only); (exact ⟨⟨HH2.out.1.cell 0 (u := .nilIface) rfl, HH2.out.2.1.box.cell 0 (u := .iface tf xf) rfl, HH2.out.2.2.box.cell 0 (u := .iface tg xg) rfl⟩, HH2.out⟩))
  case' rest52 => (clear hK K; try simp only [List.getElem_toArray, List.getElem_cons_zero, List.getElem_cons_succ, Act.put, List.setIfInBounds_toArray, List.set_cons_zero, List.set_cons_succ])
  clear HH HH2 hb
  have HH := hide hHeld
  clear hHeld
  refine wpAnyH_take (i := 35) (oi := _) (v := ?v53) rfl (by kernel_rfl) (by kernel_rfl) (by kernel_rfl) (fun _ _ _ h => h) (Or.inl ⟨by rfl, ?hy53⟩) (by assumption) ?rest53
  case hy53 => ((intro w hSw; (try dsimp only at hSw); go_simp) <;> with_reducible rfl)
  case' rest53 => try simp only [List.getElem_toArray, List.getElem_cons_zero, List.getElem_cons_succ, Act.put, List.setIfInBounds_toArray, List.set_cons_zero, List.set_cons_succ]
  refine wpAnyH_take (i := 36) (oi := _) (v := ?v54) rfl (by kernel_rfl) (by kernel_rfl) (by kernel_rfl) (fun _ _ _ h => h) (Or.inl ⟨by rfl, ?hy54⟩) (by assumption) ?rest54
  case hy54 => ((intro w hSw; (try dsimp only at hSw); go_simp) <;> with_reducible rfl)
  case' rest54 => try simp only [List.getElem_toArray, List.getElem_cons_zero, List.getElem_cons_succ, Act.put, List.setIfInBounds_toArray, List.set_cons_zero, List.set_cons_succ]
  refine wpAnyH_take (i := 37) (oi := _) (v := ?v55) rfl (by kernel_rfl) (by kernel_rfl) (by kernel_rfl) (fun _ _ _ h => h) (Or.inl ⟨by rfl, ?hy55⟩) (by assumption) ?rest55
  case hy55 => ((intro w hSw; (try dsimp only at hSw); go_simp) <;> with_reducible rfl)
  case' rest55 => try simp only [List.getElem_toArray, List.getElem_cons_zero, List.getElem_cons_succ, Act.put, List.setIfInBounds_toArray, List.set_cons_zero, List.set_cons_succ]
  refine wpAnyH_take (i := 38) (oi := _) (v := ?v56) rfl (by kernel_rfl) (by kernel_rfl) (by kernel_rfl) (fun _ _ _ h => h) (Or.inl ⟨by rfl, ?hy56⟩) (by assumption) ?rest56
  case hy56 => ((intro w hSw; (try dsimp only at hSw); go_simp) <;> with_reducible rfl)
  case' rest56 => try simp only [List.getElem_toArray, List.getElem_cons_zero, List.getElem_cons_succ, Act.put, List.setIfInBounds_toArray, List.set_cons_zero, List.set_cons_succ]
  refine wpAnyH_take (i := 40) (oi := _) (v := ?v57) rfl (by kernel_rfl) (by kernel_rfl) (by kernel_rfl) (fun _ _ _ h => h) (Or.inl ⟨by rfl, ?hy57⟩) (by assumption) ?rest57
  case hy57 => ((intro w hSw; (try dsimp only at hSw); go_simp) <;> with_reducible rfl)
  case' rest57 => try simp only [List.getElem_toArray, List.getElem_cons_zero, List.getElem_cons_succ, Act.put, List.setIfInBounds_toArray, List.set_cons_zero, List.set_cons_succ]
  refine wpAnyH_ready (rs := [39]) (by kernel_rfl) (by simp) ?_
  refine AllReadyH.cons (o := _) rfl (fun K hK => ?_) AllReadyH.nil
  go_simp
  refine (HFa.out _ _ _ HH.out.2.2.1).mono ?_
  rintro e w3 ⟨rfl, hb⟩
  try dsimp only
  have HH2 := hide (And.intro (HH.out.2.1.below hb HH.out.2.1.lt) (And.intro (HH.out.2.2.1.below hb) (HH.out.2.2.2.below hb)))
  refine hK.out _ _ ?hS60 (fun hHeld => ?rest60)
  case hS60 => ((try dsimp only); (exact ⟨⟨HH2.out.1.cell 0 (u := .nilIface) rfl, HH2.out.2.1.box.cell 0 (u := .iface tf xf) rfl, HH2.out.2.2.box.cell 0 (u := .iface tg xg) rfl⟩, HH2.out⟩))
  case' rest60 => (clear hK K; try simp only [List.getElem_toArray, List.getElem_cons_zero, List.getElem_cons_succ, Act.put, List.setIfInBounds_toArray, List.set_cons_zero, List.set_cons_succ])
  clear HH HH2 hb
  have HH := hide hHeld
  clear hHeld
  refine wpAnyH_ready (rs := [41]) (by kernel_rfl) (by simp) ?_
  refine AllReadyH.cons (o := _) rfl (fun K hK => ?_) AllReadyH.nil
  go_simp
  refine (HFa.out _ _ _ HH.out.2.2.2).mono ?_
  rintro e w3 ⟨rfl, hb⟩
  try dsimp only
  have HH2 := hide (And.intro (HH.out.2.1.below hb HH.out.2.1.lt) (And.intro (HH.out.2.2.1.below hb) (HH.out.2.2.2.below hb)))
  refine hK.out _ _ ?hS63 (fun hHeld => ?rest63)
  case hS63 => ((try dsimp only); (exact ⟨⟨HH2.out.1.cell 0 (u := .nilIface) rfl, HH2.out.2.1.box.cell 0 (u := .iface tf xf) rfl, HH2.out.2.2.box.cell 0 (u := .iface tg xg) rfl⟩, HH2.out⟩))
  case' rest63 => (clear hK K; try simp only [List.getElem_toArray, List.getElem_cons_zero, List.getElem_cons_succ, Act.put, List.setIfInBounds_toArray, List.set_cons_zero, List.set_cons_succ])
  clear HH HH2 hb
  have HH := hide hHeld
  clear hHeld
  refine wpAnyH_take (i := 42) (oi := _) (v := ?v64) rfl (by kernel_rfl) (by kernel_rfl) (by kernel_rfl) (fun _ _ _ h => h) (Or.inl ⟨by rfl, ?hy64⟩) (by assumption) ?rest64
  case hy64 => ((intro w hSw; (try dsimp only at hSw); go_simp) <;> with_reducible rfl)
  case' rest64 => try simp only [List.getElem_toArray, List.getElem_cons_zero, List.getElem_cons_succ, Act.put, List.setIfInBounds_toArray, List.set_cons_zero, List.set_cons_succ]
  refine wpAnyH_take (i := 43) (oi := _) (v := ?v65) rfl (by kernel_rfl) (by kernel_rfl) (by kernel_rfl) (fun _ _ _ h => h) (Or.inl ⟨by rfl, ?hy65⟩) (by assumption) ?rest65
  case hy65 => ((intro w hSw; (try dsimp only at hSw); go_simp) <;> with_reducible rfl)
  case' rest65 => try simp only [List.getElem_toArray, List.getElem_cons_zero, List.getElem_cons_succ, Act.put, List.setIfInBounds_toArray, List.set_cons_zero, List.set_cons_succ]
  refine wpAnyH_take (i := 44) (oi := _) (v := ?v66) rfl (by kernel_rfl) (by kernel_rfl) (by kernel_rfl) (fun _ _ _ h => h) (Or.inl ⟨by rfl, ?hy66⟩) (by assumption) ?rest66
  case hy66 => ((intro w hSw; (try dsimp only at hSw); go_simp) <;> with_reducible rfl)
  case' rest66 => try simp only [List.getElem_toArray, List.getElem_cons_zero, List.getElem_cons_succ, Act.put, List.setIfInBounds_toArray, List.set_cons_zero, List.set_cons_succ]
  refine wpAnyH_take (i := 45) (oi := _) (v := ?v67) rfl (by kernel_rfl) (by kernel_rfl) (by kernel_rfl) (fun _ _ _ h => h) (Or.inl ⟨by rfl, ?hy67⟩) (by assumption) ?rest67
  case hy67 => ((intro w hSw; (try dsimp only at hSw); go_simp) <;> with_reducible rfl)
  case' rest67 => try simp only [List.getElem_toArray, List.getElem_cons_zero, List.getElem_cons_succ, Act.put, List.setIfInBounds_toArray, List.set_cons_zero, List.set_cons_succ]
  refine wpAnyH_ready (rs := [46]) (by kernel_rfl) (by simp) ?_
  refine AllReadyH.cons (o := _) rfl (fun K hK => ?_) AllReadyH.nil
  go_simp
  refine (HDe.out _ _ _ HH.out.2.2.1).mono ?_
  rintro e w3 ⟨rfl, hb⟩
  try dsimp only
  have HH2 := hide (And.intro (HH.out.2.1.below hb HH.out.2.1.lt) (And.intro (HH.out.2.2.1.below hb) (HH.out.2.2.2.below hb)))
  refine hK.out _ _ ?hS70 (fun hHeld => ?rest70)
  case hS70 => ((try dsimp only); (exact ⟨⟨HH2.out.1.cell 0 (u := .nilIface) rfl, HH2.out.2.1.box.cell 0 (u := .iface tf xf) rfl, HH2.out.2.2.box.cell 0 (u := .iface tg xg) rfl⟩, HH2.out⟩))
  case' rest70 => (clear hK K; try simp only [List.getElem_toArray, List.getElem_cons_zero, List.getElem_cons_succ, Act.put, List.setIfInBounds_toArray, List.set_cons_zero, List.set_cons_succ])
  clear HH HH2 hb
  have HH := hide hHeld
  clear hHeld
  refine wpAnyH_take (i := 47) (oi := _) (v := ?v71) rfl (by kernel_rfl) (by kernel_rfl) (by kernel_rfl) (fun _ _ _ h => h) (Or.inl ⟨by rfl, ?hy71⟩) (by assumption) ?rest71
  case hy71 => ((intro w hSw; (try dsimp only at hSw); go_simp) <;> with_reducible rfl)
  case' rest71 => try simp only [List.getElem_toArray, List.getElem_cons_zero, List.getElem_cons_succ, Act.put, List.setIfInBounds_toArray, List.set_cons_zero, List.set_cons_succ]
  refine wpAnyH_take (i := 48) (oi := _) (v := ?v72) rfl (by kernel_rfl) (by kernel_rfl) (by kernel_rfl) (fun _ _ _ h => h) (Or.inl ⟨by rfl, ?hy72⟩) (by assumption) ?rest72
  case hy72 => ((intro w hSw; (try dsimp only at hSw); go_simp) <;> with_reducible rfl)
  case' rest72 => try simp only [List.getElem_toArray, List.getElem_cons_zero, List.getElem_cons_succ, Act.put, List.setIfInBounds_toArray, List.set_cons_zero, List.set_cons_succ]
  refine wpAnyH_take (i := 49) (oi := _) (v := ?v73) rfl (by kernel_rfl) (by kernel_rfl) (by kernel_rfl) (fun _ _ _ h => h) (Or.inl ⟨by rfl, ?hy73⟩) (by assumption) ?rest73
  case hy73 => ((intro w hSw; (try dsimp only at hSw); go_simp) <;> with_reducible rfl)
  case' rest73 => try simp only [List.getElem_toArray, List.getElem_cons_zero, List.getElem_cons_succ, Act.put, List.setIfInBounds_toArray, List.set_cons_zero, List.set_cons_succ]
  refine wpAnyH_take (i := 50) (oi := _) (v := ?v74) rfl (by kernel_rfl) (by kernel_rfl) (by kernel_rfl) (fun _ _ _ h => h) (Or.inl ⟨by rfl, ?hy74⟩) (by assumption) ?rest74
  case hy74 => ((intro w hSw; (try dsimp only at hSw); go_simp) <;> with_reducible rfl)
  case' rest74 => try simp only [List.getElem_toArray, List.getElem_cons_zero, List.getElem_cons_succ, Act.put, List.setIfInBounds_toArray, List.set_cons_zero, List.set_cons_succ]
  refine wpAnyH_take (i := 52) (oi := _) (v := ?v75) rfl (by kernel_rfl) (by kernel_rfl) (by kernel_rfl) (fun _ _ _ h => h) (Or.inl ⟨by rfl, ?hy75⟩) (by assumption) ?rest75
  case hy75 => ((intro w hSw; (try dsimp only at hSw); go_simp) <;> with_reducible rfl)
  case' rest75 => try simp only [List.getElem_toArray, List.getElem_cons_zero, List.getElem_cons_succ, Act.put, List.setIfInBounds_toArray, List.set_cons_zero, List.set_cons_succ]
  refine wpAnyH_ready (rs := [51]) (by kernel_rfl) (by simp) ?_
  refine AllReadyH.cons (o := _) rfl (fun K hK => ?_) AllReadyH.nil
  go_simp
  refine (HSa.out _ _ _ HH.out.2.2.1).mono ?_
  rintro e w3 ⟨rfl, hb⟩
  try dsimp only
  have HH2 := hide (And.intro (HH.out.2.1.below hb HH.out.2.1.lt) (And.intro (HH.out.2.2.1.below hb) (HH.out.2.2.2.below hb)))
  refine hK.out _ _ ?hS78 (fun hHeld => ?rest78)
  case hS78 => ((try dsimp only); (exact ⟨⟨HH2.out.1.cell 0 (u := .nilIface) rfl, HH2.out.2.1.box.cell 0 (u := .iface tf xf) rfl, HH2.out.2.2.box.cell 0 (u := .iface tg xg) rfl⟩, HH2.out⟩))
  case' rest78 => (clear hK K; try simp only [List.getElem_toArray, List.getElem_cons_zero, List.getElem_cons_succ, Act.put, List.setIfInBounds_toArray, List.set_cons_zero, List.set_cons_succ])
  clear HH HH2 hb
  have HH := hide hHeld
  clear hHeld
  refine wpAnyH_ready (rs := [53]) (by kernel_rfl) (by simp) ?_
  refine AllReadyH.cons (o := _) rfl (fun K hK => ?_) AllReadyH.nil
  go_simp
  refine (HSa.out _ _ _ HH.out.2.2.2).mono ?_
  rintro e w3 ⟨rfl, hb⟩
  try dsimp only
  have HH2 := hide (And.intro (HH.out.2.1.below hb HH.out.2.1.lt) (And.intro (HH.out.2.2.1.below hb) (HH.out.2.2.2.below hb)))
  refine hK.out _ _ ?hS81 (fun hHeld => ?rest81)
  case hS81 => ((try dsimp only); (exact ⟨⟨HH2.out.1.cell 0 (u := .nilIface) rfl, HH2.out.2.1.box.cell 0 (u := .iface tf xf) rfl, HH2.out.2.2.box.cell 0 (u := .iface tg xg) rfl⟩, HH2.out⟩))
  case' rest81 => (clear hK K; try simp only [List.getElem_toArray, List.getElem_cons_zero, List.getElem_cons_succ, Act.put, List.setIfInBounds_toArray, List.set_cons_zero, List.set_cons_succ])
  clear HH HH2 hb
  have HH := hide hHeld
  clear hHeld
  refine wpAnyH_take (i := 54) (oi := _) (v := ?v82) rfl (by kernel_rfl) (by kernel_rfl) (by kernel_rfl) (fun _ _ _ h => h) (Or.inl ⟨by rfl, ?hy82⟩) (by assumption) ?rest82
  case hy82 => ((intro w hSw; (try dsimp only at hSw); go_simp) <;> with_reducible rfl)
  case' rest82 => try simp only [List.getElem_toArray, List.getElem_cons_zero, List.getElem_cons_succ, Act.put, List.setIfInBounds_toArray, List.set_cons_zero, List.set_cons_succ]
  refine wpAnyH_take (i := 55) (oi := _) (v := ?v83) rfl (by kernel_rfl) (by kernel_rfl) (by kernel_rfl) (fun _ _ _ h => h) (Or.inl ⟨by rfl, ?hy83⟩) (by assumption) ?rest83
  case hy83 => ((intro w hSw; (try dsimp only at hSw); go_simp) <;> with_reducible rfl)
  case' rest83 => try simp only [List.getElem_toArray, List.getElem_cons_zero, List.getElem_cons_succ, Act.put, List.setIfInBounds_toArray, List.set_cons_zero, List.set_cons_succ]
  refine wpAnyH_take (i := 56) (oi := _) (v := ?v84) rfl (by kernel_rfl) (by kernel_rfl) (by kernel_rfl) (fun _ _ _ h => h) (Or.inl ⟨by rfl, ?hy84⟩) (by assumption) ?rest84
  case hy84 => ((intro w hSw; (try dsimp only at hSw); go_simp) <;> with_reducible rfl)
  case' rest84 => try simp only [List.getElem_toArray, List.getElem_cons_zero, List.getElem_cons_succ, Act.put, List.setIfInBounds_toArray, List.set_cons_zero, List.set_cons_succ]
  refine wpAnyH_take (i := 57) (oi := _) (v := ?v85) rfl (by kernel_rfl) (by kernel_rfl) (by kernel_rfl) (fun _ _ _ h => h) (Or.inl ⟨by rfl, ?hy85⟩) (by assumption) ?rest85
  case hy85 => ((intro w hSw; (try dsimp only at hSw); go_simp) <;> with_reducible rfl)
  case' rest85 => try simp only [List.getElem_toArray, List.getElem_cons_zero, List.getElem_cons_succ, Act.put, List.setIfInBounds_toArray, List.set_cons_zero, List.set_cons_succ]
  refine wpAnyH_take (i := 58) (oi := _) (v := ?v86) rfl (by kernel_rfl) (by kernel_rfl) (by kernel_rfl) (fun _ _ _ h => h) (Or.inl ⟨by rfl, ?hy86⟩) (by assumption) ?rest86
  case hy86 => ((intro w hSw; (try dsimp only at hSw); go_simp) <;> with_reducible rfl)
  case' rest86 => try simp only [List.getElem_toArray, List.getElem_cons_zero, List.getElem_cons_succ, Act.put, List.setIfInBounds_toArray, List.set_cons_zero, List.set_cons_succ]
  refine wpAnyH_ready (rs := [59]) (by kernel_rfl) (by simp) ?_
  refine AllReadyH.cons (o := _) rfl (fun K hK => ?_) AllReadyH.nil
  go_simp
  refine (HSs.out _ _ _ HH.out.2.2.2).mono ?_
  rintro e w3 ⟨rfl, hb⟩
  try dsimp only
  have HH2 := hide (And.intro (HH.out.2.1.below hb HH.out.2.1.lt) (And.intro (HH.out.2.2.1.below hb) (HH.out.2.2.2.below hb)))
  refine hK.out _ _ ?hS89 (fun hHeld => ?rest89)
  case hS89 => ((try dsimp only); (exact ⟨⟨HH2.out.1.cell 0 (u := .nilIface) rfl, HH2.out.2.1.box.cell 0 (u := .iface tf xf) rfl, HH2.out.2.2.box.cell 0 (u := .iface tg xg) rfl⟩, HH2.out⟩))
  case' rest89 => (clear hK K; try simp only [List.getElem_toArray, List.getElem_cons_zero, List.getElem_cons_succ, Act.put, List.setIfInBounds_toArray, List.set_cons_zero, List.set_cons_succ])
  clear HH HH2 hb
  have HH := hide hHeld
  clear hHeld
  refine wpAnyH_take (i := 60) (oi := _) (v := ?v90) rfl (by kernel_rfl) (by kernel_rfl) (by kernel_rfl) (fun _ _ _ h => h) (Or.inl ⟨by rfl, ?hy90⟩) (by assumption) ?rest90
  case hy90 => ((intro w hSw; (try dsimp only at hSw); go_simp) <;> with_reducible rfl)
  case' rest90 => try simp only [List.getElem_toArray, List.getElem_cons_zero, List.getElem_cons_succ, Act.put, List.setIfInBounds_toArray, List.set_cons_zero, List.set_cons_succ]
  refine wpAnyH_take (i := 61) (oi := _) (v := ?v91) rfl (by kernel_rfl) (by kernel_rfl) (by kernel_rfl) (fun _ _ _ h => h) (Or.inl ⟨by rfl, ?hy91⟩) (by assumption) ?rest91
  case hy91 => ((intro w hSw; (try dsimp only at hSw); go_simp) <;> with_reducible rfl)
  case' rest91 => try simp only [List.getElem_toArray, List.getElem_cons_zero, List.getElem_cons_succ, Act.put, List.setIfInBounds_toArray, List.set_cons_zero, List.set_cons_succ]
  refine wpAnyH_take (i := 62) (oi := _) (v := ?v92) rfl (by kernel_rfl) (by kernel_rfl) (by kernel_rfl) (fun _ _ _ h => h) (Or.inl ⟨by rfl, ?hy92⟩) (by assumption) ?rest92
  case hy92 => ((intro w hSw; (try dsimp only at hSw); go_simp) <;> with_reducible rfl)
  case' rest92 => try simp only [List.getElem_toArray, List.getElem_cons_zero, List.getElem_cons_succ, Act.put, List.setIfInBounds_toArray, List.set_cons_zero, List.set_cons_succ]
  refine wpAnyH_ready (rs := [63]) (by kernel_rfl) (by simp) ?_
  refine AllReadyH.cons (o := _) rfl (fun K hK => ?_) AllReadyH.nil
  go_simp
  refine (HL.out _ _ _ HH.out.2.2.1).mono ?_
  rintro e w3 ⟨rfl, hb⟩
  try dsimp only
  have HH2 := hide (And.intro (HH.out.2.1.below hb HH.out.2.1.lt) (And.intro (HH.out.2.2.1.below hb) (HH.out.2.2.2.below hb)))
  refine hK.out _ _ ?hS95 (fun hHeld => ?rest95)
  case hS95 => ((try dsimp only); (exact ⟨⟨HH2.out.1.cell 0 (u := .nilIface) rfl, HH2.out.2.1.box.cell 0 (u := .iface tf xf) rfl, HH2.out.2.2.box.cell 0 (u := .iface tg xg) rfl⟩, HH2.out⟩))
  case' rest95 => (clear hK K; try simp only [List.getElem_toArray, List.getElem_cons_zero, List.getElem_cons_succ, Act.put, List.setIfInBounds_toArray, List.set_cons_zero, List.set_cons_succ])
  clear HH HH2 hb
  have HH := hide hHeld
  clear hHeld
  refine wpAnyH_take (i := 64) (oi := _) (v := ?v96) rfl (by kernel_rfl) (by kernel_rfl) (by kernel_rfl) (fun _ _ _ h => h) (Or.inl ⟨by rfl, ?hy96⟩) (by assumption) ?rest96
  case hy96 => ((intro w hSw; (try dsimp only at hSw); go_simp) <;> with_reducible rfl)
  case' rest96 => try simp only [List.getElem_toArray, List.getElem_cons_zero, List.getElem_cons_succ, Act.put, List.setIfInBounds_toArray, List.set_cons_zero, List.set_cons_succ]
  refine wpAnyH_take (i := 65) (oi := _) (v := ?v97) rfl (by kernel_rfl) (by kernel_rfl) (by kernel_rfl) (fun _ _ _ h => h) (Or.inl ⟨by rfl, ?hy97⟩) (by assumption) ?rest97
  case hy97 => ((intro w hSw; (try dsimp only at hSw); go_simp) <;> with_reducible rfl)
  case' rest97 => try simp only [List.getElem_toArray, List.getElem_cons_zero, List.getElem_cons_succ, Act.put, List.setIfInBounds_toArray, List.set_cons_zero, List.set_cons_succ]
  have hHeld := HH.out
  refine wpAnyH_done (by kernel_rfl) ?_ _
  have hEnd := hHeld.2
  repeat (clear hHeld)
  simp only [List.append, List.getElem_toArray, List.getElem_cons_zero, List.getElem_cons_succ, Act.put, List.setIfInBounds_toArray, List.set_cons_zero, List.set_cons_succ]
  go_wp2_with fail
  go_ret
  exact (⟨rfl, HH.out.2.2.1.be⟩ : TrueB w _ _)
end Go.Proofs.YtkhbcmkcjnnejaaDoor
