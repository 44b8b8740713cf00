/- Package octet: Get and Put. -/
import Derived.Test.YthdbckbpldlkeaaSeat
namespace Go.Proofs.Ythdbckbpldlkeaa
set_option linter.unusedVariables false
set_option linter.unusedSimpArgs false
set_option linter.unnecessarySimpa false
section
open Go.RowKit

theorem there_any (n : Int) (w : World) : Calls Try.prog 100 #[.int .i64 n] w fun e w' => e = .returned (.bool (decide (1 ≤ n) && decide (n ≤ 8))) ∧ w = w' := by
  by_cases h1 : 1 ≤ n
  · by_cases h2 : n ≤ 8
    · go_enter Try.func100, Try.ntmps100
      go_wp2
      go_ret
      exact ⟨by simp [h1, h2], rfl⟩
    · go_enter Try.func100, Try.ntmps100
      go_wp2
      go_ret
      exact ⟨by simp [h1, h2], rfl⟩
  · go_enter Try.func100, Try.ntmps100
    go_wp2
    go_ret
    exact ⟨by simp; omega, rfl⟩

set_option maxHeartbeats 400000 in
theorem get_ok (A : Option Addr) (cap : Nat) (l : List UInt8) (at_ wd : Int) (w : World)
    (hl : l.length ≤ cap) (hcap : l.length ≤ 4611686018427387904) (ha0 : 0 ≤ at_) (ha : at_ + wd ≤ l.length) (h1 : 1 ≤ wd) (h8 : wd ≤ 8) (hc : Sl w A (l.map bv)) :
    Calls Try.prog 91 #[.slice A l.length cap, .int .i64 at_, .int .i64 wd] w fun e w' =>
      e = .returned (.tuple #[.int .u64 (leN ((l.drop at_.toNat).take wd.toNat)), .int .i64 0]) ∧ w = w' := by
  have g1 : (decide (1 ≤ (wd : Int)) && decide ((wd : Int) ≤ 8)) = true := by simp; omega
  go_enter Try.func91, Try.ntmps91
  go_wp2_with (go_at_call 100; refine (there_any _ _).mono ?_; rintro e w' ⟨rfl, rfl⟩)
  go_loop [8, 9, 32] (fun n _ i => ∃ k : Nat, k ≤ wd ∧ i = .int .i64 k ∧ n = .int .u64 (leN ((l.drop at_.toNat).take k))) (fun _ _ i => wd.toNat - (intOf i).toNat)
  case atStart => exact ⟨0, by omega, rfl, rfl⟩
  case round =>
    obtain ⟨k, hk, rfl, rfl⟩ := hrel
    by_cases hlt : (k : Int) < wd
    · obtain ⟨ad, rfl, hcell⟩ := hc.byte (j := at_.toNat + k) (by omega)
      have e1 : (at_ + k).toNat = at_.toNat + k := by omega
      go_wp2_with fail
      go_round
      case rel =>
        have hd : k < (l.drop at_.toNat).length := by simp; omega
        have hlt' := leN_lt ((l.drop at_.toNat).take k)
        rw [List.length_take, Nat.min_eq_left (Nat.le_of_lt hd)] at hlt'
        refine ⟨k + 1, by omega, by go_num, ?_⟩
        rw [or_step _ _ _ hlt' (UInt8.toNat_lt _) (by omega), leN_take_succ _ _ hd]
        simp
      case measure => simp [intOf]; omega
    · go_wp2
      go_ret2
      have : k = wd.toNat := by omega
      subst this
      exact ⟨rfl, rfl⟩

theorem there_yes (n : Int) (w : World) (h1 : 1 ≤ n) (h2 : n ≤ 8) : Calls Try.prog 100 #[.int .i64 n] w fun e w' => e = .returned (.bool true) ∧ w = w' :=
  (there_any n w).mono fun _ _ ⟨he, hw⟩ => ⟨by rw [he]; simp [h1, h2], hw⟩
theorem there_no (n : Int) (w : World) (h : n < 1 ∨ 8 < n) : Calls Try.prog 100 #[.int .i64 n] w fun e w' => e = .returned (.bool false) ∧ w = w' :=
  (there_any n w).mono fun _ _ ⟨he, hw⟩ => ⟨by rw [he]; simp; omega, hw⟩

theorem two_pow (wd : Int) : (2 : Int) ^ (8 * wd).toNat = ((256 ^ wd.toNat : Nat) : Int) := by
  have : (8 * wd).toNat = 8 * wd.toNat := by omega
  rw [this, ← pow256_two]
  push_cast
  rfl

/-- the byte that Put lays at place k: the walk's spelling -/
theorem put_byte (x k : Nat) : Value.int IntKind.u8 ((x : Int) / 2 ^ (8 * k) % 256) = bv (UInt8.ofNat (x / 256 ^ k)) := by
  have : ((x : Int) / 2 ^ (8 * k)) = ((x / 256 ^ k : Nat) : Int) := by
    rw [← pow256_two]; push_cast; rfl
  rw [this]
  simp only [bv, UInt8.toNat_ofNat']
  congr 1

theorem get_ok' (A : Option Addr) (n cap : Nat) (l : List UInt8) (at_ wd : Int) (w : World) (hn : n = l.length)
    (hl : n ≤ cap) (hcap : n ≤ 4611686018427387904) (ha0 : 0 ≤ at_) (ha : at_ + wd ≤ n) (h1 : 1 ≤ wd) (h8 : wd ≤ 8) (hc : Sl w A (l.map bv)) :
    Calls Try.prog 91 #[.slice A n cap, .int .i64 at_, .int .i64 wd] w fun e w' =>
      e = .returned (.tuple #[.int .u64 (leN ((l.drop at_.toNat).take wd.toNat)), .int .i64 0]) ∧ w = w' := by
  subst hn
  exact get_ok A cap l at_ wd w hl hcap ha0 ha h1 h8 hc
end
section
open Go.RowKit

theorem join_any (A1 A2 : Option Addr) (n1 n2 c1 c2 : Nat) (l1 l2 : List UInt8) (w : World) (hn1 : n1 = l1.length) (hn2 : n2 = l2.length) (hl : n1 ≤ 35184372088832) (hl2 : n2 ≤ 35184372088832)
    (h1 : Sl w A1 (l1.map bv)) (h2 : Sl w A2 (l2.map bv)) :
    Calls Try.prog 30 #[.slice A1 n1 c1, .slice A2 n2 c2] w fun e w' => ∃ A' n' c', e = .returned (.slice A' n' c') ∧
      OwnB w' w.heap.size A' n' c' (l1 ++ l2) ∧ Below w.heap.size w w' := by
  have H1 := hide hn1
  have H2 := hide hn2
  clear hn1 hn2
  go_enter Try.func30, Try.ntmps30
  go_wp2_with (first
    | (at_builtin; refine app_b _ rfl (.tmp 6) (.tmp 7) rfl w.heap.size _ _ _ _ rfl (OwnB.nil _ _) _ _ _ l1 rfl H1.out h1 (by omega) (Nat.le_refl _) n1 (by omega) ?_; intro A3 c3 w3 hown3 _ _ hb3)
    | (at_builtin; refine app_b _ rfl (.tmp 9) (.tmp 10) rfl w.heap.size _ _ _ _ rfl hown3 _ _ _ l2 rfl H2.out (h2.below hb3) (by omega) hb3.size (n1 + n2) rfl ?_; intro A4 c4 w4 hown4 _ _ hb4))
  go_ret
  exact ⟨_, _, _, rfl, by simpa using hown4, hb3.trans hb4⟩

theorem get_step (d : List UInt8) (k b : Nat) (h1 : 1 ≤ k) (hk : k ≤ d.length) (h8 : d.length ≤ 8) (hb : b = (d[k - 1]'(by omega)).toNat) :
    IntKind.u64.wrap (IntKind.u64.wrap (256 * ↑(leN (List.drop k d))) + IntKind.u64.wrap (b : Int)) = (leN (d.drop (k - 1)) : Int) := by
  have e : d.drop (k - 1) = d[k - 1]'(by omega) :: d.drop k := by
    rw [List.drop_eq_getElem_cons (by omega)]
    congr 2
    omega
  have hu : U64 (leN (d.drop (k - 1))) := leN_U64 (by simp; omega)
  rw [e] at hu ⊢
  simp only [leN] at hu ⊢
  rw [← hb] at hu ⊢
  unfold U64 at hu
  have e1 : IntKind.u64.wrap (256 * ↑(leN (List.drop k d))) = 256 * ↑(leN (List.drop k d)) := by rw [IntKind.wrap_u64]; omega
  have e2 : IntKind.u64.wrap (b : Int) = b := by rw [IntKind.wrap_u64]; omega
  rw [e1, e2, IntKind.wrap_u64]
  omega
set_option maxHeartbeats 400000 in
theorem rget_ok (A : Option Addr) (n cap : Nat) (l : List UInt8) (at_ wd : Int) (w : World) (hn : n = l.length)
    (hl : n ≤ cap) (hcap : n ≤ 4611686018427387904) (ha0 : 0 ≤ at_) (ha : at_ + wd ≤ n) (h1 : 1 ≤ wd) (h8 : wd ≤ 8) (hc : Sl w A (l.map bv)) :
    Calls Try.prog 103 #[.slice A n cap, .int .i64 at_, .int .i64 wd] w fun e w' =>
      e = .returned (.tuple #[.int .u64 (leN ((l.drop at_.toNat).take wd.toNat)), .int .i64 0]) ∧ w = w' := by
  have HN := hide hn
  clear hn
  have hlen : ((l.drop at_.toNat).take wd.toNat).length = wd.toNat := by have := HN.out; rw [List.length_take, List.length_drop]; omega
  obtain ⟨d, hd⟩ : ∃ d, d = (l.drop at_.toNat).take wd.toNat := ⟨_, rfl⟩
  rw [← hd] at hlen ⊢
  have HD := hide hd
  have HL := hide hlen
  clear hd hlen
  go_enter Try.func103, Try.ntmps103
  go_wp2_with fail
  go_loop [8, 9] (fun n i => ∃ k : Nat, k ≤ wd ∧ i = .int .i64 ((k : Int) - 1) ∧ n = .int .u64 (leN (d.drop k))) (fun _ i => (intOf i + 1).toNat)
  case atStart => exact ⟨wd.toNat, by omega, by go_num, by rw [List.drop_eq_nil_of_le (by rw [HL.out]; omega)]; rfl⟩
  case round =>
    obtain ⟨k, hk, rfl, rfl⟩ := hrel
    by_cases hlt : 1 ≤ k
    · obtain ⟨ad, rfl, hcell⟩ := hc.byte (j := at_.toNat + (k - 1)) (by have := HN.out; omega)
      have e1 : (at_ + (↑k - 1)).toNat = at_.toNat + (k - 1) := by omega
      go_wp2_with fail
      go_round
      case rel =>
        refine ⟨k - 1, by omega, by go_num, ?_⟩
        rw [get_step d k _ hlt (by rw [HL.out]; omega) (by rw [HL.out]; omega)]
        have hd := HD.out
        subst hd
        rw [List.getElem_take, List.getElem_drop]
      case measure => simp [intOf]; omega
    · go_wp2
      go_ret2
      have : k = 0 := by omega
      subst this
      exact ⟨by rw [HD.out]; rfl, rfl⟩
end
section
open Go.RowKit

theorem lent_any (A : Option Addr) (n c : Nat) (l : List UInt8) (w : World) (hn : n = l.length) (hl : n ≤ 35184372088832) (hs : Sl w A (l.map bv)) :
    Calls Try.prog 9 #[.slice A n c] w fun e w' => ∃ g c', e = .returned (.slice (some ⟨g, 0, none⟩) n c') ∧
      OwnB w' w.heap.size (some ⟨g, 0, none⟩) (n + 1) c' (l ++ [77]) ∧ Below w.heap.size w w' := by
  have H1 := hide hn
  clear hn
  go_enter Try.func9, Try.ntmps9
  go_wp2_with (first
    | (at_builtin; refine app_b _ rfl (.tmp 4) (.tmp 5) rfl w.heap.size _ _ _ _ rfl (OwnB.nil _ _) _ _ _ l rfl H1.out hs (by omega) (Nat.le_refl _) n (by omega) ?_; intro A3 c3 w3 hown3 _ _ hb3)
    | (at_builtin; refine app_b _ rfl (.tmp 7) (.tmp 8) rfl w.heap.size _ _ _ _ rfl (hown3.alloc _) _ _ _ [77] rfl rfl (Sl.one _ _ _) (by omega) (by have := hb3.size; simp; omega) (n + 1) rfl ?_; intro A4 c4 w4 hown4 _ _ hb4; have hle4 : n + 1 ≤ c4 := hown4.le; obtain ⟨g, rfl, hg1, hg2⟩ := hown4.own.at_ (by omega)))
  go_ret
  exact ⟨_, _, rfl, by simpa using hown4, (hb3.alloc hb3.size _).trans hb4⟩

set_option maxRecDepth 20000 in
theorem kept_yes (g : Nat) (A2 : Option Addr) (n c c2 : Nat) (l : List UInt8) (w : World) (hn : n = l.length) (hl : n ≤ 35184372088832) (hc : n + 1 ≤ c)
    (h1 : Sl w (some ⟨g, 0, none⟩) ((l ++ [77]).map bv)) (h2 : Sl w A2 (l.map bv)) :
    Calls Try.prog 12 #[.slice (some ⟨g, 0, none⟩) n c, .slice A2 n c2] w fun e w' => e = .returned (.bool true) ∧ w = w' := by
  have k1 := str_b c hn (by have := h1.take n; rw [List.map_append, hn, List.take_left' (by simp)] at this; exact this)
  have k2 := str_b c2 hn h2
  obtain ⟨ad, had, hcell⟩ := h1.byte (j := n) (by simp [hn])
  injection had with had
  subst had
  have hv : (l ++ [77])[n]'(by simp [hn]) = 77 := by subst hn; simp
  rw [hv] at hcell
  have hc77 : w.cell? ⟨g, n, none⟩ = some (.int .u8 77) := by simpa [Addr.add_lit] using hcell
  clear hn h1 h2 hv hcell
  go_enter Try.func12, Try.ntmps12
  go_wp2_with fail
  go_ret
  exact ⟨rfl, rfl⟩

/-- Spoil writes into its own slice's block alone. -/
theorem spoil_any (A : Option Addr) (n c B : Nat) (l : List UInt8) (w : World) (hl : n ≤ 35184372088832) (hO : Own w B 5 1 A n c (l.map bv)) (hB : B ≤ w.heap.size) :
    Calls Try.prog 13 #[.slice A n c] w fun e w' => e = .returned (.tuple #[]) ∧ w.grownBy w' (Value.ownBlock (.slice A n c)) := by
  obtain ⟨i0, hi0, hz0, hz1, hz2⟩ := info_parts infoU8
  go_enter Try.func13, Try.ntmps13
  go_wp2
  go_loopw [2] (fun i wr => ∃ k zs, k ≤ n ∧ i = .int .i64 (k : Nat) ∧ Own wr B 5 1 A n c (List.map (Value.int .u8) zs) ∧ w.grownBy wr (Value.ownBlock (.slice A n c))) (fun i _ => n - (intOf i).toNat)
  case atStart => exact ⟨0, l.map (fun c => (c.toNat : Int)), by omega, rfl, by rw [List.map_map]; exact hO, World.grownBy.refl _ _⟩
  case round =>
    obtain ⟨k, zs, hk, rfl, hOr, hgr⟩ := hrel
    by_cases hlt : k < n
    · obtain ⟨g, u, rfl, hg1, hg2, hu, hcell, hfr⟩ := hOr.cell hlt
      obtain ⟨z, hz, rfl⟩ : ∃ z, zs[k]? = some z ∧ u = .int .u8 z := by
        rw [List.getElem?_map] at hu
        obtain ⟨z, h1, h2⟩ := Option.map_eq_some_iff.1 hu
        exact ⟨z, h1, h2.symm⟩
      clear hu hz
      go_wp2_with fail
      go_roundw
      case rel => exact ⟨k + 1, _, by omega, by go_num, by rw [List.map_set]; exact hOr.stored _ _, grown_set hgr (.inl rfl) _ _⟩
      case measure => simp [intOf]; omega
    · have hB2 : B ≤ wr.heap.size := Nat.le_trans hB hgr.size
      go_wp2_with (first
        | (at_builtin; refine wpList_app _ rfl (.tmp 17) (.tmp 18) _ rfl B 5 i0 _ 1 1 Try.underlying32 hi0 hz0 hz1 hz2 rfl (by omega) _ _ _ _ rfl (hOr.alloc _) _ _ _ _ rfl rfl (Sl.one _ _ _) (by intro u hu; simp at hu; subst hu; rfl) (by unfold maxLen; omega) (by omega) (by simp; omega) (n + 1) rfl _ rfl ?_; intro A4 c4 w4 hown4 hg4 hat4 hb4; obtain ⟨g, u, rfl, hg1, hg2, hu, hcell, hfr⟩ := hown4.cell (k := n) (by omega)))
      go_end0
      refine ⟨rfl, grown_set ((grown_alloc hgr _).trans hg4) ?_ _ _⟩
      have hs := hgr.size
      rcases hat4 with h | h
      · left; rw [← h]; rfl
      · right; simp at h; omega
end
end Go.Proofs.Ythdbckbpldlkeaa
