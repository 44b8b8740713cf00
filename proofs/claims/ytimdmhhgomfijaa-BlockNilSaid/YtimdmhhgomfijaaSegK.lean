/- Package seg: a server that is not there, and one without a dictionary; law package 21: Given. -/
import Derived.Test.YtimdmhhgomfijaaSegI
namespace Go.Proofs.Ytimdmhhgomfijaa
set_option linter.unusedVariables false
set_option linter.unusedSimpArgs false
set_option linter.unnecessarySimpa false
open Go.RowKit
set_option maxRecDepth 100000
set_option maxHeartbeats 4000000
def zsrv : Array Value := #[.pointer none, .int .i64 0, .int .i64 0, .int .i64 0, .int .i64 0, .int .i64 0, .slice none 0 0, .bool false, .int .i64 0, .int .i64 0, .int .i64 0, .bool false, .bool false, .bool false, .bool false, .int .u32 0, .int .u32 0, .slice none 0 0, .int .i64 0, .int .i64 0, .int .i64 0, .int .u16 0]
theorem seg_recv0 (M : Ms) (A3 : Option Addr) (m3 c3 : Nat) (w : World) :
    Calls Try.prog 13 #[.pointer none, .agg (msV M A3 m3 c3)] w fun e w' => e = .returned (.agg (outV none 0 0 outZ none 0 0)) ∧ Below w.heap.size w w' := by
  obtain ⟨k1, k2⟩ := blk_two w 39 44 (msV M A3 m3 c3) (outV none 0 0 outZ none 0 0)
  have hbw := below_alloc (below_alloc (Below.refl w.heap.size w) (.cells (msV M A3 m3 c3) 39)) (.cells (outV none 0 0 outZ none 0 0) 44)
  have HK := hide k2
  have HB := hide hbw
  unfold outV outZ at k2
  unfold msV at HK HB ⊢
  unfold outV outZ at HK HB
  clear k1 hbw k2
  go_enter Try.func13, Try.ntmps13
  go_wp2_with fail
  exact ret_out (O := outZ) rfl rfl rfl HK.out ⟨rfl, HB.out⟩
theorem seg_recvz (p : Nat) (M : Ms) (A3 : Option Addr) (m3 c3 : Nat) (w : World) (hB : Blk w p 55 zsrv) :
    Calls Try.prog 13 #[.pointer (some ⟨p, 0, none⟩), .agg (msV M A3 m3 c3)] w fun e w' => e = .returned (.agg (outV none 0 0 outZ none 0 0)) ∧ Below w.heap.size w w' := by
  obtain ⟨k1, k2⟩ := blk_two w 39 44 (msV M A3 m3 c3) (outV none 0 0 outZ none 0 0)
  have hbw := below_alloc (below_alloc (Below.refl w.heap.size w) (.cells (msV M A3 m3 c3) 39)) (.cells (outV none 0 0 outZ none 0 0) 44)
  have hz := hB.lt
  have c0 : w.cell? ⟨p, 0, none⟩ = some (.pointer none) := hB.cell 0 rfl
  have HK := hide k2
  have HB := hide hbw
  unfold msV at HK HB ⊢
  unfold outV outZ at HK HB
  clear k1 hbw k2 hB
  go_enter Try.func13, Try.ntmps13
  go_wp2_with fail
  exact ret_out (O := outZ) rfl rfl rfl HK.out ⟨rfl, HB.out⟩
theorem seg_busyz (p : Nat) (w : World) (hB : Blk w p 55 zsrv) : Calls Try.prog 14 #[.pointer (some ⟨p, 0, none⟩)] w fun e w' => e = .returned (.bool false) ∧ w = w' := by
  have c1 : w.cell? ⟨p, 1, none⟩ = some (.int .i64 0) := hB.cell 1 rfl
  go_enter Try.func14, Try.ntmps14
  go_wp2_with fail
  go_ret
  exact ⟨rfl, rfl⟩
theorem seg_abortz (p : Nat) (code : Nat) (w : World) (hB : Blk w p 55 zsrv) : Calls Try.prog 19 #[.pointer (some ⟨p, 0, none⟩), .int .u32 (code : Nat)] w fun e w' => e = .returned (.slice none 0 0) ∧ w = w' := by
  go_enter Try.func19, Try.ntmps19
  go_wp2_with fail
  refine (seg_busyz p _ hB).mono ?_
  rintro e w1 ⟨rfl, rfl⟩
  go_wp2_with fail
  go_ret
  exact ⟨rfl, rfl⟩
theorem given_21 (M : Ms) (A : Option Addr) (n c : Nat) (w : World) :
    Calls Try.prog 18 #[.agg (msV M A n c)] w fun e w' => e = .returned (.agg (msV M A n c)) ∧ Below w.heap.size w w' := by
  obtain ⟨kind, ix, sub, tg, la, cr, sz, size, code, data, sq, bl, em, sum⟩ := M
  simp only [msV] at *
  go_enter Try.func18, Try.ntmps18
  go_wp2_with fail
  exact bodyPost_ret (v := .agg #[.int .i64 kind, .int .i64 ix, .int .i64 sub, .bool tg, .bool la, .bool cr, .bool sz, .int .u32 (size : Nat), .int .u32 (code : Nat), .slice A n c, .int .i64 sq, .int .i64 bl, .int .i64 em, .int .u16 (sum : Nat)]) (by simp [results, Try.results18, go_sem]) rfl ⟨rfl, (by repeat' (first | with_reducible assumption | with_reducible exact Below.refl _ _ | with_reducible apply below_alloc | with_reducible apply below_drew1 | with_reducible apply below_drewN | (with_reducible apply below_step; with_reducible assumption) | (with_reducible apply below_sg2; (first | exact Nat.le_refl _ | (simp; done) | omega))))⟩
end Go.Proofs.Ytimdmhhgomfijaa
