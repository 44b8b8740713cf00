/- Package snap: the small functions. -/
import Derived.Test.YtapfadaplncpeaaRef01b
import Derived.RegionCalls
import Derived.Deep.RegionHeld3
namespace Go.Proofs.Ytapfadaplncpeaa
open Go.RowKit
set_option maxRecDepth 20000
set_option maxHeartbeats 400000

def thereB (i s : Int) : Bool := decide (1 ≤ i ∧ i ≤ 65535 ∧ 0 ≤ s ∧ s ≤ 255)
def aheadB (i s j t : Int) : Bool := decide (i < j ∨ i = j ∧ s < t)

theorem snap_there (i s : Int) (d : Value) (w : World) :
    Calls Try.prog 61 #[.agg #[.int .i64 i, .int .i64 s, d]] w fun e w' => e = .returned (.bool (thereB i s)) ∧ Below w.heap.size w w' := by
  go_enter Try.func61, Try.ntmps61
  go_wp2
  all_goals
    go_ret
    refine ⟨ret_bool ?_, (Below.refl _ _).alloc (Nat.le_refl _) _⟩
    rw [Bool.eq_iff_iff]
    simp [thereB]
    omega
theorem entry_before (i s j t : Int) (a2 a3 a4 a5 a6 a7 a8 a9 a10 b2 b3 b4 b5 b6 b7 b8 b9 b10 : Value) (w : World) :
    Calls Try.prog 98 #[.agg #[.int .i64 i, .int .i64 s, a2, a3, a4, a5, a6, a7, a8, a9, a10], .agg #[.int .i64 j, .int .i64 t, b2, b3, b4, b5, b6, b7, b8, b9, b10]] w
      fun e w' => e = .returned (.bool (aheadB i s j t)) ∧ Below w.heap.size w w' := by
  go_enter Try.func98, Try.ntmps98
  go_wp2
  all_goals
    go_ret
    refine ⟨ret_bool ?_, ((Below.refl _ _).alloc (Nat.le_refl _) _).alloc (by simp) _⟩
    rw [Bool.eq_iff_iff]
    simp [aheadB] at *
    omega
theorem snap_place (i s : Int) (d : Value) (w : World) :
    Calls Try.prog 96 #[.agg #[.int .i64 i, .int .i64 s, d]] w fun e w' => e = .returned (.agg #[.int .i64 i, .int .i64 s, .string ByteArray.empty, .int .i64 0, .int .i64 0, .bool false, .bool false, .int .i64 0, .int .i64 0, .int .i64 0, .slice none 0 0]) ∧ Below w.heap.size w w' := by
  go_enter Try.func96, Try.ntmps96
  go_wp2
  exact bodyPost_ret (v := .agg #[.int .i64 i, .int .i64 s, .string ByteArray.empty, .int .i64 0, .int .i64 0, .bool false, .bool false, .int .i64 0, .int .i64 0, .int .i64 0, .slice none 0 0])
    (by simp [results, Try.results96, go_sem]; rfl) rfl ⟨rfl, ((Below.refl _ _).alloc (Nat.le_refl _) _).alloc (by simp) _⟩
set_option maxHeartbeats 1000000 in
theorem snap_ahead (i s j t : Int) (d d' : Value) (w : World) :
    Calls Try.prog 62 #[.agg #[.int .i64 i, .int .i64 s, d], .agg #[.int .i64 j, .int .i64 t, d']] w
      fun e w' => e = .returned (.bool (aheadB i s j t)) ∧ Below w.heap.size w w' := by
  go_enter Try.func62, Try.ntmps62
  go_wp2_with fail
  go_region_held3 (fun w' => (∀ p : Addr, p.block < ((w.alloc (Obj.cells #[Value.int IntKind.i64 i, Value.int IntKind.i64 s, d] 35)).alloc (Obj.cells #[Value.int IntKind.i64 j, Value.int IntKind.i64 t, d'] 35)).heap.size → w'.cell? p = ((w.alloc (Obj.cells #[Value.int IntKind.i64 i, Value.int IntKind.i64 s, d] 35)).alloc (Obj.cells #[Value.int IntKind.i64 j, Value.int IntKind.i64 t, d'] 35)).cell? p) ∧ Below ((w.alloc (Obj.cells #[Value.int IntKind.i64 i, Value.int IntKind.i64 s, d] 35)).alloc (Obj.cells #[Value.int IntKind.i64 j, Value.int IntKind.i64 t, d'] 35)).heap.size ((w.alloc (Obj.cells #[Value.int IntKind.i64 i, Value.int IntKind.i64 s, d] 35)).alloc (Obj.cells #[Value.int IntKind.i64 j, Value.int IntKind.i64 t, d'] 35)) w') (((try go_split_ands); refine sn_of ?_; repeat' (first | with_reducible assumption | with_reducible exact Below.refl _ _ | with_reducible apply below_alloc | with_reducible apply below_drew1 | with_reducible apply below_drewN | (with_reducible apply below_step; with_reducible assumption) | (with_reducible apply below_sg2; (first | exact Nat.le_refl _ | (simp; done) | omega))))) (first
    | (go_at_call 96; refine (snap_place _ _ _ _).mono ?_; rintro e w1 ⟨rfl, hb1⟩)
    | (go_at_call 98; refine (entry_before _ _ _ _ _ _ _ _ _ _ _ _ _ _ _ _ _ _ _ _ _ _ _).mono ?_; rintro e w2 ⟨rfl, hb2⟩))
  go_wp2
  go_ret
  exact ⟨rfl, below_step (by assumption : _ ∧ _).2 (below_alloc (below_alloc (Below.refl _ _) _) _)⟩
theorem snap_held (i s : Int) (A : Option Addr) (n c : Nat) (l : List UInt8) (w : World) (hn : n = l.length) (hl : n ≤ 35184372088832) (hs : Sl w A (l.map bv)) :
    Calls Try.prog 97 #[.agg #[.int .i64 i, .int .i64 s, .slice A n c]] w fun e w' => ∃ A' c', e = .returned (.agg #[.int .i64 i, .int .i64 s, .slice A' n c']) ∧ OwnB w' w.heap.size A' n c' l ∧ Below w.heap.size w w' := by
  have HL := hide (show l.take n ++ List.drop n (List.replicate n (0 : UInt8)) = l by rw [hn]; simp)
  have HN := hide hn
  clear hn
  have K0 := blk_two w 35 35 #[.int .i64 i, .int .i64 s, .slice A n c] #[.int .i64 0, .int .i64 0, .slice none 0 0]
  go_enter Try.func97, Try.ntmps97
  go_wp2_with (first
    | (at_make; refine mk_b _ rfl _ _ rfl _ _ _ _ n n rfl rfl rfl rfl (Nat.le_refl _) (by omega) (w.heap.size + 1 + 1) (by simp) ?_; intro w1 hown1 hz1 hb1; have hs1 := hs.below (below_step' hb1 (by omega) (below_alloc (below_alloc (Below.refl _ _) _) _)); have k1 := K0.1.below hb1 (by omega); have c12 := k1.cell 2 rfl; have k1' := K0.2.below hb1 (by omega))
    | (with_reducible refine cpy_b _ rfl (.tmp 8) (.tmp 10) rfl (w.heap.size + 1 + 1) _ _ _ rfl hown1 _ _ _ l rfl HN.out hs1 (Nat.le_of_lt hz1) l HL.out ?_; intro w2 hO2 _ hb2; have k2 := k1.below hb2 (by omega); have k2' := k1'.below hb2 (by omega); have c20 := k2.cell 0 rfl; have c21 := k2.cell 1 rfl; have c22 := k2.cell 2 rfl; have f22 := k2.frozen 2; have d20 := k2'.cell 0 rfl; have d21 := k2'.cell 1 rfl; have d22 := k2'.cell 2 rfl; have e20 := k2'.frozen 0; have e21 := k2'.frozen 1; have e22 := k2'.frozen 2)
    )
  refine bodyPost_ret (v := .agg #[.int .i64 i, .int .i64 s, .slice (some ⟨w.heap.size + 1 + 1, 0, none⟩) n n]) (by simp [results, Try.results97, go_sem, d20, d21, d22]) rfl ⟨_, _, rfl, ?_, ?_⟩
  · exact ((((hO2.set_ (by simp; omega) _).set_ (by simp) _).set_ (by simp) _).set_ (by simp) _).mono (by omega)
  · exact below_set (below_set (below_set (below_set (below_step' hb2 (by omega) (below_step' hb1 (by omega) (below_alloc (below_alloc (Below.refl _ _) _) _))) (by simp) _) (by simp) _) (by simp) _) (by simp) _
end Go.Proofs.Ytapfadaplncpeaa
