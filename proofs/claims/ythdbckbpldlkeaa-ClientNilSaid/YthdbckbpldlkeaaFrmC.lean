/- Packages octet and frame: bytes as digits; a frame as text. -/
import Derived.Test.YthdbckbpldlkeaaFrmB
import Derived.Test.YthdbckbpldlkeaaCliL
import Derived.Test.YthdbckbpldlkeaaSegA
namespace Go.Proofs.Ythdbckbpldlkeaa
set_option linter.unusedVariables false
set_option linter.unusedSimpArgs false
set_option linter.unnecessarySimpa false
open Go.RowKit
set_option maxRecDepth 100000
set_option maxHeartbeats 4000000
def hexS : ByteArray := ⟨#[48, 49, 50, 51, 52, 53, 54, 55, 56, 57, 97, 98, 99, 100, 101, 102]⟩
def dig (d : Nat) : UInt8 := if d < 10 then UInt8.ofNat (48 + d) else UInt8.ofNat (87 + d)
def hexL (b : List UInt8) : List UInt8 := b.flatMap fun c => [dig (c.toNat / 16), dig (c.toNat % 16)]
theorem hexL_snoc (b : List UInt8) (c : UInt8) : hexL (b ++ [c]) = hexL b ++ [dig (c.toNat / 16), dig (c.toNat % 16)] := by simp [hexL]
theorem hexL_len (b : List UInt8) : (hexL b).length = 2 * b.length := by
  induction b with
  | nil => rfl
  | cons c b ih => simp only [hexL, List.flatMap_cons, List.length_append, List.length_cons, List.length_nil] at ih ⊢; omega
theorem dig_at (d : Nat) (h : d < 16) (hh : d < (⟨#[48, 49, 50, 51, 52, 53, 54, 55, 56, 57, 97, 98, 99, 100, 101, 102]⟩ : ByteArray).size) : (⟨#[48, 49, 50, 51, 52, 53, 54, 55, 56, 57, 97, 98, 99, 100, 101, 102]⟩ : ByteArray)[d]'hh = dig d := by
  have : ∀ x : Fin 16, ∀ hh : x.val < (⟨#[48, 49, 50, 51, 52, 53, 54, 55, 56, 57, 97, 98, 99, 100, 101, 102]⟩ : ByteArray).size, (⟨#[48, 49, 50, 51, 52, 53, 54, 55, 56, 57, 97, 98, 99, 100, 101, 102]⟩ : ByteArray)[x.val]'hh = dig x.val := by decide +kernel
  exact this ⟨d, h⟩ hh
theorem idx_hex (d : Nat) (h : d < 16) (W : World) : (Instr.index 9 (.string ⟨#[48, 49, 50, 51, 52, 53, 54, 55, 56, 57, 97, 98, 99, 100, 101, 102]⟩) (.int .u8 (d : Nat))).run Try.prog W = .ok (.int .u8 ((dig d).toNat : Nat)) W := by
  have h16 : d = 0 ∨ d = 1 ∨ d = 2 ∨ d = 3 ∨ d = 4 ∨ d = 5 ∨ d = 6 ∨ d = 7 ∨ d = 8 ∨ d = 9 ∨ d = 10 ∨ d = 11 ∨ d = 12 ∨ d = 13 ∨ d = 14 ∨ d = 15 := by omega
  rcases h16 with rfl | rfl | rfl | rfl | rfl | rfl | rfl | rfl | rfl | rfl | rfl | rfl | rfl | rfl | rfl | rfl
  all_goals
    show _ = _
    kernel_rfl
theorem and15 (c : Nat) (h : c < 256) : bits BinOp.and IntKind.u8 (c : Int) 15 = ((c % 16 : Nat) : Int) := by
  have : ∀ x : Fin 256, bits BinOp.and IntKind.u8 (x.val : Int) 15 = ((x.val % 16 : Nat) : Int) := by decide +kernel
  exact this ⟨c, h⟩
theorem oct_hex (A : Option Addr) (n c : Nat) (b : List UInt8) (w : World) (hn : n = b.length) (hl : n ≤ 1000) (hs : Sl w A (b.map bv)) :
    Calls Try.prog 71 #[.slice A n c] w fun e w' => e = .returned (.string ⟨(hexL b).toArray⟩) ∧ Below w.heap.size w w' := by
  have HN := hide hn
  have HS := hide hs
  clear hn hs
  go_enter Try.func71, Try.ntmps71
  go_wp2_with (at_make; refine mk_b _ rfl _ _ rfl _ _ _ _ 0 (2 * n) rfl rfl rfl (by omega) (Nat.zero_le _) (by omega) w.heap.size rfl ?_; intro w1 hown1 hz1 hb1)
  have HO1 := hide hown1
  have HB1 := hide hb1
  clear hown1 hb1
  go_loopw [3, 5, 12, 13, 14, 15, 16, 17, 18, 19, 20, 21, 22, 23, 24, 25] (fun v3 _ v12 _ _ _ _ _ _ _ _ _ _ _ _ _ wr => ∃ k A' c', v12 = .int .i64 (k : Nat) ∧ v3 = .slice A' (2 * k) c' ∧ k ≤ n ∧ Hid (OwnB wr w.heap.size A' (2 * k) c' (hexL (b.take k)) ∧ Below w.heap.size w wr)) (fun _ _ v12 _ _ _ _ _ _ _ _ _ _ _ _ _ _ => n - (intOf v12).toNat)
  case atStart => exact ⟨0, _, _, rfl, rfl, Nat.zero_le _, hide ⟨HO1.out, HB1.out⟩⟩
  case round =>
    obtain ⟨k, A', c', rfl, rfl, hk, HR⟩ := hrel
    by_cases hlt : k < n
    · obtain ⟨x, hx⟩ : ∃ x, b[k]? = some x := ⟨b[k]'(by rw [← HN.out]; exact hlt), List.getElem?_eq_getElem _⟩
      obtain ⟨bb, oo, rfl, hc⟩ := (HS.out.below HR.out.2).at_ (show (b.map bv)[k]? = some (bv x) by rw [List.getElem?_map, hx]; rfl)
      have HX := hide hx
      unfold bv at hc
      obtain ⟨y, hy⟩ : ∃ y, y = x.toNat := ⟨_, rfl⟩
      have hy256 : y < 256 := by rw [hy]; exact x.toNat_lt
      have HY := hide hy
      rw [← hy] at hc
      obtain ⟨d1, hd1⟩ : ∃ d, d = y / 16 := ⟨_, rfl⟩
      obtain ⟨d2, hd2⟩ : ∃ d, d = y % 16 := ⟨_, rfl⟩
      have hsh : (y : Int) / 16 = (d1 : Int) := by omega
      have hand : bits BinOp.and IntKind.u8 (y : Int) 15 = (d2 : Int) := by rw [and15 y hy256, hd2]
      have hi1 := fun W => idx_hex d1 (by omega) W
      have hi2 := fun W => idx_hex d2 (by omega) W
      have HD := hide (And.intro hd1 hd2)
      clear hx hy hd1 hd2
      go_upto_region 5 with fail
      have HSB : Hid (Sl (wr.drew.alloc (.cells #[.int .u8 ((dig d1).toNat : Nat), .int .u8 ((dig d2).toNat : Nat)] 5)) (some ⟨wr.heap.size, 0, none⟩) ([dig d1, dig d2].map bv)) := hide (Blk.new wr.drew 5 #[.int .u8 ((dig d1).toNat : Nat), .int .u8 ((dig d2).toNat : Nat)]).sl
      refine wp_region_held_drew (S := (fun _ => True ∧ True)) (by kernel_rfl) ?hS1 (fun hHeld => ?rest1)
      case hS1 => ((try dsimp only); (exact ⟨trivial, trivial⟩))
      case' rest1 => skip
      refine wpAnyH_take (i := 0) (oi := _) (v := ?v2) rfl (by kernel_rfl) (by kernel_rfl) (by kernel_rfl) (fun _ _ _ h => h) (Or.inl ⟨by rfl, ?hy2⟩) (by assumption) ?rest2
      case hy2 => ((intro w hSw; (try dsimp only at hSw); go_simp) <;> with_reducible rfl)
      case' rest2 => try simp only [List.getElem_toArray, List.getElem_cons_zero, List.getElem_cons_succ, Act.put, List.setIfInBounds_toArray, List.set_cons_zero, List.set_cons_succ]
      refine wpAnyH_take (i := 1) (oi := _) (v := ?v3) rfl (by kernel_rfl) (by kernel_rfl) (by kernel_rfl) (fun _ _ _ h => h) (Or.inl ⟨by rfl, ?hy3⟩) (by assumption) ?rest3
      case hy3 => ((intro w hSw; (try dsimp only at hSw); go_simp) <;> with_reducible rfl)
      case' rest3 => try simp only [List.getElem_toArray, List.getElem_cons_zero, List.getElem_cons_succ, Act.put, List.setIfInBounds_toArray, List.set_cons_zero, List.set_cons_succ]
      refine wpAnyH_take (i := 2) (oi := _) (v := ?v4) rfl (by kernel_rfl) (by kernel_rfl) (by kernel_rfl) (fun _ _ _ h => h) (Or.inl ⟨by rfl, ?hy4⟩) (by assumption) ?rest4
      case hy4 => ((intro w hSw; (try dsimp only at hSw); go_simp) <;> with_reducible rfl)
      case' rest4 => try simp only [List.getElem_toArray, List.getElem_cons_zero, List.getElem_cons_succ, Act.put, List.setIfInBounds_toArray, List.set_cons_zero, List.set_cons_succ]
      refine wpAnyH_take (i := 3) (oi := _) (v := ?v5) rfl (by kernel_rfl) (by kernel_rfl) (by kernel_rfl) (fun _ _ _ h => h) (Or.inl ⟨by rfl, ?hy5⟩) (by assumption) ?rest5
      case hy5 => ((intro w hSw; (try dsimp only at hSw); go_simp) <;> with_reducible rfl)
      case' rest5 => try simp only [List.getElem_toArray, List.getElem_cons_zero, List.getElem_cons_succ, Act.put, List.setIfInBounds_toArray, List.set_cons_zero, List.set_cons_succ]
      refine wpAnyH_take (i := 4) (oi := _) (v := ?v6) rfl (by kernel_rfl) (by kernel_rfl) (by kernel_rfl) (fun _ _ _ h => h) (Or.inl ⟨by rfl, ?hy6⟩) (by assumption) ?rest6
      case hy6 => ((intro w hSw; (try dsimp only at hSw); go_simp) <;> with_reducible rfl)
      case' rest6 => try simp only [List.getElem_toArray, List.getElem_cons_zero, List.getElem_cons_succ, Act.put, List.setIfInBounds_toArray, List.set_cons_zero, List.set_cons_succ]
      refine wpAnyH_take (i := 5) (oi := _) (v := ?v7) rfl (by kernel_rfl) (by kernel_rfl) (by kernel_rfl) (fun _ _ _ h => h) (Or.inl ⟨by rfl, ?hy7⟩) (by assumption) ?rest7
      case hy7 => ((intro w hSw; (try dsimp only at hSw); go_simp) <;> with_reducible rfl)
      case' rest7 => try simp only [List.getElem_toArray, List.getElem_cons_zero, List.getElem_cons_succ, Act.put, List.setIfInBounds_toArray, List.set_cons_zero, List.set_cons_succ]
      refine wpAnyH_take (i := 6) (oi := _) (v := ?v8) rfl (by kernel_rfl) (by kernel_rfl) (by kernel_rfl) (fun _ _ _ h => h) (Or.inl ⟨by rfl, ?hy8⟩) (by assumption) ?rest8
      case hy8 => ((intro w hSw; (try dsimp only at hSw); go_simp) <;> with_reducible rfl)
      case' rest8 => try simp only [List.getElem_toArray, List.getElem_cons_zero, List.getElem_cons_succ, Act.put, List.setIfInBounds_toArray, List.set_cons_zero, List.set_cons_succ]
      refine wpAnyH_ready (rs := [7]) (by kernel_rfl) (by simp) ?_
      refine AllReadyH.cons (o := _) rfl (fun K hK => ?_) AllReadyH.nil
      go_simp
      refine hK.out _ _ ?hS11 (fun hHeld => ?rest11)
      case hS11 => ((try dsimp only); (exact ⟨trivial, trivial⟩))
      case' rest11 => (clear hK K; try simp only [List.getElem_toArray, List.getElem_cons_zero, List.getElem_cons_succ, Act.put, List.setIfInBounds_toArray, List.set_cons_zero, List.set_cons_succ])
      refine wpAnyH_ready (rs := [8]) (by kernel_rfl) (by simp) ?_
      refine AllReadyH.cons (o := _) rfl (fun K hK => ?_) AllReadyH.nil
      rw [if_pos (show Region.wanted _ _ = true by kernel_rfl)]
      refine wp_app_b _ _ rfl w.heap.size A' (2 * k) c' (hexL (b.take k)) rfl (HR.out.1.drew.alloc _) _ 2 2 [dig d1, dig d2] rfl rfl HSB.out (by omega) (by have := HR.out.2.size; simp; omega) (2 * (k + 1)) (by omega) ?_
      intro A6 c6 w6 h1 h2
      have H6 := hide (And.intro h1 ((below_alloc HR.out.2.drew _).trans h2))
      clear h1 h2
      refine hK.out _ _ ?hS14 (fun hHeld => ?rest14)
      case hS14 => ((try dsimp only); (exact ⟨trivial, trivial⟩))
      case' rest14 => (clear hK K; try simp only [List.getElem_toArray, List.getElem_cons_zero, List.getElem_cons_succ, Act.put, List.setIfInBounds_toArray, List.set_cons_zero, List.set_cons_succ])
      refine wpAnyH_take (i := 9) (oi := _) (v := ?v15) rfl (by kernel_rfl) (by kernel_rfl) (by kernel_rfl) (fun _ _ _ h => h) (Or.inl ⟨by rfl, ?hy15⟩) (by assumption) ?rest15
      case hy15 => ((intro w hSw; (try dsimp only at hSw); go_simp) <;> with_reducible rfl)
      case' rest15 => try simp only [List.getElem_toArray, List.getElem_cons_zero, List.getElem_cons_succ, Act.put, List.setIfInBounds_toArray, List.set_cons_zero, List.set_cons_succ]
      refine wpAnyH_done (by kernel_rfl) ?_ _
      have hEnd := hHeld.2
      repeat (clear hHeld)
      go_wp2_with fail
      have hstep : hexL (b.take (k + 1)) = hexL (b.take k) ++ [dig d1, dig d2] := by
        obtain ⟨hk1, hk2⟩ := List.getElem?_eq_some_iff.1 HX.out
        rw [List.take_succ_eq_append_getElem hk1, hk2, hexL_snoc, ← HY.out, HD.out.1, HD.out.2]
      exact ⟨⟨k + 1, A6, c6, by congr 1, rfl, by omega, hide ⟨by rw [hstep]; exact H6.out.1, H6.out.2⟩⟩, by simp only [intOf]; omega⟩
    · obtain rfl : n = k := by omega
      have hcv : ∀ W, OwnB W w.heap.size A' (2 * n) c' (hexL b) → (convert 32 9 (.slice A' (2 * n) c')).run Try.prog W = .ok (.string ⟨(hexL b).toArray⟩) W := fun W h => str_b (w := W) c' h.hn h.sl
      have hcv2 := hcv wr (by have := HR.out.1; rwa [HN.out, List.take_length, ← HN.out] at this)
      clear hcv
      go_wp2_with fail
      go_ret
      exact ⟨rfl, HR.out.2⟩
/-- a frame as text, where it is one -/
theorem frm_check (id : Int) (A : Option Addr) (n c : Nat) (w : World) (hi : 0 ≤ id ∧ id ≤ 2047) (hn : n ≤ 8) :
    Calls Try.prog 48 #[.agg #[.int .i64 id, .bool false, .slice A n c]] w fun e w' => e = .returned (.int .i64 0) ∧ Below w.heap.size w w' := by
  have hb := below_alloc (Below.refl w.heap.size w) (.cells #[.int .i64 id, .bool false, .slice A n c] 34)
  obtain ⟨h1, h2⟩ := hi
  have h3 : ¬ id < 0 := by omega
  have h4 : ¬ 2047 < id := by omega
  have h5 : ¬ 8 < n := by omega
  clear h1 h2 hn
  go_enter Try.func48, Try.ntmps48
  go_wp2_with fail
  go_ret
  exact ⟨rfl, hb⟩
def showL (id : Nat) (data : List UInt8) : List UInt8 := (hexL [UInt8.ofNat (id / 256), UInt8.ofNat id]).drop 1 ++ 35 :: hexL data
end Go.Proofs.Ythdbckbpldlkeaa
