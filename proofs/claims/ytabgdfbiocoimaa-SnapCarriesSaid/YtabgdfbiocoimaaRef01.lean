/- The reference's octet: digits, Join, Put, Get, Lent, Kept, Spoil. -/
import Derived.Test.YtabgdfbiocoimaaOct
namespace Go.Proofs.Ytabgdfbiocoimaa
set_option linter.unusedVariables false
set_option linter.unusedSimpArgs false
set_option linter.unnecessarySimpa false
open Go.RowKit

theorem join_any (A1 A2 : Option Addr) (n1 n2 c1 c2 : Nat) (l1 l2 : List UInt8) (w : World) (hn1 : n1 = l1.length) (hn2 : n2 = l2.length) (hl : n1 ≤ 35184372088832) (hl2 : n2 ≤ 35184372088832)
    (h1 : Sl w A1 (l1.map bv)) (h2 : Sl w A2 (l2.map bv)) :
    Calls Try.prog 68 #[.slice A1 n1 c1, .slice A2 n2 c2] w fun e w' => ∃ A' n' c', e = .returned (.slice A' n' c') ∧
      OwnB w' w.heap.size A' n' c' (l1 ++ l2) ∧ Below w.heap.size w w' := by
  have H1 := hide hn1
  have H2 := hide hn2
  clear hn1 hn2
  go_enter Try.func68, Try.ntmps68
  go_wp2_with (first
    | (at_builtin; refine app_b _ rfl (.tmp 6) (.tmp 7) rfl w.heap.size _ _ _ _ rfl (OwnB.nil _ _) _ _ _ l1 rfl H1.out h1 (by omega) (Nat.le_refl _) n1 (by omega) ?_; intro A3 c3 w3 hown3 _ _ hb3)
    | (at_builtin; refine app_b _ rfl (.tmp 9) (.tmp 10) rfl w.heap.size _ _ _ _ rfl hown3 _ _ _ l2 rfl H2.out (h2.below hb3) (by omega) hb3.size (n1 + n2) rfl ?_; intro A4 c4 w4 hown4 _ _ hb4))
  go_ret
  exact ⟨_, _, _, rfl, by simpa using hown4, hb3.trans hb4⟩

theorem get_step (d : List UInt8) (k b : Nat) (h1 : 1 ≤ k) (hk : k ≤ d.length) (h8 : d.length ≤ 8) (hb : b = (d[k - 1]'(by omega)).toNat) :
    IntKind.u64.wrap (IntKind.u64.wrap (256 * ↑(leN (List.drop k d))) + IntKind.u64.wrap (b : Int)) = (leN (d.drop (k - 1)) : Int) := by
  have e : d.drop (k - 1) = d[k - 1]'(by omega) :: d.drop k := by
    rw [List.drop_eq_getElem_cons (by omega)]
    congr 2
    omega
  have hu : U64 (leN (d.drop (k - 1))) := leN_U64 (by simp; omega)
  rw [e] at hu ⊢
  simp only [leN] at hu ⊢
  rw [← hb] at hu ⊢
  unfold U64 at hu
  have e1 : IntKind.u64.wrap (256 * ↑(leN (List.drop k d))) = 256 * ↑(leN (List.drop k d)) := by rw [IntKind.wrap_u64]; omega
  have e2 : IntKind.u64.wrap (b : Int) = b := by rw [IntKind.wrap_u64]; omega
  rw [e1, e2, IntKind.wrap_u64]
  omega
set_option maxHeartbeats 400000 in
theorem rget_ok (A : Option Addr) (n cap : Nat) (l : List UInt8) (at_ wd : Int) (w : World) (hn : n = l.length)
    (hl : n ≤ cap) (hcap : n ≤ 4611686018427387904) (ha0 : 0 ≤ at_) (ha : at_ + wd ≤ n) (h1 : 1 ≤ wd) (h8 : wd ≤ 8) (hc : Sl w A (l.map bv)) :
    Calls Try.prog 122 #[.slice A n cap, .int .i64 at_, .int .i64 wd] w fun e w' =>
      e = .returned (.tuple #[.int .u64 (leN ((l.drop at_.toNat).take wd.toNat)), .int .i64 0]) ∧ w = w' := by
  have HN := hide hn
  clear hn
  have hlen : ((l.drop at_.toNat).take wd.toNat).length = wd.toNat := by have := HN.out; rw [List.length_take, List.length_drop]; omega
  obtain ⟨d, hd⟩ : ∃ d, d = (l.drop at_.toNat).take wd.toNat := ⟨_, rfl⟩
  rw [← hd] at hlen ⊢
  have HD := hide hd
  have HL := hide hlen
  clear hd hlen
  go_enter Try.func122, Try.ntmps122
  go_wp2_with fail
  go_loop [8, 9] (fun n i => ∃ k : Nat, k ≤ wd ∧ i = .int .i64 ((k : Int) - 1) ∧ n = .int .u64 (leN (d.drop k))) (fun _ i => (intOf i + 1).toNat)
  case atStart => exact ⟨wd.toNat, by omega, by go_num, by rw [List.drop_eq_nil_of_le (by rw [HL.out]; omega)]; rfl⟩
  case round =>
    obtain ⟨k, hk, rfl, rfl⟩ := hrel
    by_cases hlt : 1 ≤ k
    · obtain ⟨ad, rfl, hcell⟩ := hc.byte (j := at_.toNat + (k - 1)) (by have := HN.out; omega)
      have e1 : (at_ + (↑k - 1)).toNat = at_.toNat + (k - 1) := by omega
      go_wp2_with fail
      go_round
      case rel =>
        refine ⟨k - 1, by omega, by go_num, ?_⟩
        rw [get_step d k _ hlt (by rw [HL.out]; omega) (by rw [HL.out]; omega)]
        have hd := HD.out
        subst hd
        rw [List.getElem_take, List.getElem_drop]
      case measure => simp [intOf]; omega
    · go_wp2
      go_ret2
      have : k = 0 := by omega
      subst this
      exact ⟨by rw [HD.out]; rfl, rfl⟩
end Go.Proofs.Ytabgdfbiocoimaa
