/- The reference of sdomsg: later. -/
import Derived.Test.YtcncbmlacphclaaRSdB
import Derived.Test.YtcncbmlacphclaaSdP
namespace Go.Proofs.Ytcncbmlacphclaa
set_option linter.unusedVariables false
set_option linter.unusedSimpArgs false
set_option linter.unnecessarySimpa false
open Go.RowKit
set_option maxRecDepth 100000
set_option maxHeartbeats 4000000

theorem plB_int (b : Bool) (x y : Nat) : (x : Int) + (if b = true then (y : Int) else 0) = (plB b x y : Nat) := by
  cases b <;> simp [plB]
def LatR (w : World) (B g : Nat) (l : List UInt8) (x : Nat) (e : Ending) (w' : World) : Prop := e = .returned (.int .i64 (x : Nat)) ∧ Ow8 w' B g 8 l ∧ w.grownBy w' (some g)
theorem bv_small {x : Nat} (h : x < 256) : Value.int IntKind.u8 (x : Int) = bv (UInt8.ofNat x) := by
  simp only [bv, UInt8.toNat_ofNat']
  congr 1
  omega
theorem rsd_later7 (ix sub sq bl em size code sum n c : Nat) (tg la cr sz : Bool) (A : Option Addr) (data : List UInt8) (B g : Nat) (w : World) (h1 : sum ≤ 65535) (h2 : bl ≤ 127) (h3 : sq ≤ 127) (h4 : em ≤ 7) (hn : n = data.length) (hn7 : n ≤ 7) (hs : Sl w A (data.map bv)) (hB : Ow8 w B g 8 z8) (hg : g < w.heap.size) :
    Calls Try.prog 88 #[.agg #[.int .i64 7, .int .i64 (ix : Nat), .int .i64 (sub : Nat), .bool tg, .bool la, .bool cr, .bool sz, .int .u32 (size : Nat), .int .u32 (code : Nat), .slice A n c, .int .i64 (sq : Nat), .int .i64 (bl : Nat), .int .i64 (em : Nat), .int .u16 (sum : Nat)], .slice (some ⟨g, 0, none⟩) 8 8] w (LatR w B g (putL z8 1 2 sum) (193 + 4 * em)) := by
  have hs1 := hs.alloc (.cells #[.int .i64 7, .int .i64 (ix : Nat), .int .i64 (sub : Nat), .bool tg, .bool la, .bool cr, .bool sz, .int .u32 (size : Nat), .int .u32 (code : Nat), .slice A n c, .int .i64 (sq : Nat), .int .i64 (bl : Nat), .int .i64 (em : Nat), .int .u16 (sum : Nat)] 43)
  have h0 : Rt w (w.alloc (.cells #[.int .i64 7, .int .i64 (ix : Nat), .int .i64 (sub : Nat), .bool tg, .bool la, .bool cr, .bool sz, .int .u32 (size : Nat), .int .u32 (code : Nat), .slice A n c, .int .i64 (sq : Nat), .int .i64 (bl : Nat), .int .i64 (em : Nat), .int .u16 (sum : Nat)] 43)) w.heap.size B g z8 #[.int .i64 7, .int .i64 (ix : Nat), .int .i64 (sub : Nat), .bool tg, .bool la, .bool cr, .bool sz, .int .u32 (size : Nat), .int .u32 (code : Nat), .slice A n c, .int .i64 (sq : Nat), .int .i64 (bl : Nat), .int .i64 (em : Nat), .int .u16 (sum : Nat)] :=
    ⟨blk_one w _ _, hB.alloc _, by omega, grown_alloc (World.grownBy.refl _ _) _, rfl⟩
  have HN := hide hn
  clear hs hB hn
  go_enter Try.func88, Try.ntmps88
  go_wp2_with fail
  refine (rt_put 1 2 sum h0 (by omega) (by omega)).mono ?_
  rintro e w2 ⟨rfl, g1⟩
  have qm := g1.m
  have qm_c0 := qm.cell 0 rfl
  have qm_f0 := qm.frozen 0
  have qm_c1 := qm.cell 1 rfl
  have qm_f1 := qm.frozen 1
  have qm_c2 := qm.cell 2 rfl
  have qm_f2 := qm.frozen 2
  have qm_c3 := qm.cell 3 rfl
  have qm_f3 := qm.frozen 3
  have qm_c4 := qm.cell 4 rfl
  have qm_f4 := qm.frozen 4
  have qm_c5 := qm.cell 5 rfl
  have qm_f5 := qm.frozen 5
  have qm_c6 := qm.cell 6 rfl
  have qm_f6 := qm.frozen 6
  have qm_c7 := qm.cell 7 rfl
  have qm_f7 := qm.frozen 7
  have qm_c8 := qm.cell 8 rfl
  have qm_f8 := qm.frozen 8
  have qm_c9 := qm.cell 9 rfl
  have qm_f9 := qm.frozen 9
  have qm_c10 := qm.cell 10 rfl
  have qm_f10 := qm.frozen 10
  have qm_c11 := qm.cell 11 rfl
  have qm_f11 := qm.frozen 11
  have qm_c12 := qm.cell 12 rfl
  have qm_f12 := qm.frozen 12
  have qm_c13 := qm.cell 13 rfl
  have qm_f13 := qm.frozen 13
  have zm := qm.lt
  go_wp2_with fail
  go_ret
  exact ⟨by first | rfl | (push_cast; rfl), g1.b, g1.gr⟩
theorem rsd_later20 (ix sub sq bl em size code sum n c : Nat) (tg la cr sz : Bool) (A : Option Addr) (data : List UInt8) (B g : Nat) (w : World) (h1 : sum ≤ 65535) (h2 : bl ≤ 127) (h3 : sq ≤ 127) (h4 : em ≤ 7) (hn : n = data.length) (hn7 : n ≤ 7) (hs : Sl w A (data.map bv)) (hB : Ow8 w B g 8 z8) (hg : g < w.heap.size) :
    Calls Try.prog 88 #[.agg #[.int .i64 20, .int .i64 (ix : Nat), .int .i64 (sub : Nat), .bool tg, .bool la, .bool cr, .bool sz, .int .u32 (size : Nat), .int .u32 (code : Nat), .slice A n c, .int .i64 (sq : Nat), .int .i64 (bl : Nat), .int .i64 (em : Nat), .int .u16 (sum : Nat)], .slice (some ⟨g, 0, none⟩) 8 8] w (LatR w B g (putL z8 1 2 sum) (193 + 4 * em)) := by
  have hs1 := hs.alloc (.cells #[.int .i64 20, .int .i64 (ix : Nat), .int .i64 (sub : Nat), .bool tg, .bool la, .bool cr, .bool sz, .int .u32 (size : Nat), .int .u32 (code : Nat), .slice A n c, .int .i64 (sq : Nat), .int .i64 (bl : Nat), .int .i64 (em : Nat), .int .u16 (sum : Nat)] 43)
  have h0 : Rt w (w.alloc (.cells #[.int .i64 20, .int .i64 (ix : Nat), .int .i64 (sub : Nat), .bool tg, .bool la, .bool cr, .bool sz, .int .u32 (size : Nat), .int .u32 (code : Nat), .slice A n c, .int .i64 (sq : Nat), .int .i64 (bl : Nat), .int .i64 (em : Nat), .int .u16 (sum : Nat)] 43)) w.heap.size B g z8 #[.int .i64 20, .int .i64 (ix : Nat), .int .i64 (sub : Nat), .bool tg, .bool la, .bool cr, .bool sz, .int .u32 (size : Nat), .int .u32 (code : Nat), .slice A n c, .int .i64 (sq : Nat), .int .i64 (bl : Nat), .int .i64 (em : Nat), .int .u16 (sum : Nat)] :=
    ⟨blk_one w _ _, hB.alloc _, by omega, grown_alloc (World.grownBy.refl _ _) _, rfl⟩
  have HN := hide hn
  clear hs hB hn
  go_enter Try.func88, Try.ntmps88
  go_wp2_with fail
  refine (rt_put 1 2 sum h0 (by omega) (by omega)).mono ?_
  rintro e w2 ⟨rfl, g1⟩
  have qm := g1.m
  have qm_c0 := qm.cell 0 rfl
  have qm_f0 := qm.frozen 0
  have qm_c1 := qm.cell 1 rfl
  have qm_f1 := qm.frozen 1
  have qm_c2 := qm.cell 2 rfl
  have qm_f2 := qm.frozen 2
  have qm_c3 := qm.cell 3 rfl
  have qm_f3 := qm.frozen 3
  have qm_c4 := qm.cell 4 rfl
  have qm_f4 := qm.frozen 4
  have qm_c5 := qm.cell 5 rfl
  have qm_f5 := qm.frozen 5
  have qm_c6 := qm.cell 6 rfl
  have qm_f6 := qm.frozen 6
  have qm_c7 := qm.cell 7 rfl
  have qm_f7 := qm.frozen 7
  have qm_c8 := qm.cell 8 rfl
  have qm_f8 := qm.frozen 8
  have qm_c9 := qm.cell 9 rfl
  have qm_f9 := qm.frozen 9
  have qm_c10 := qm.cell 10 rfl
  have qm_f10 := qm.frozen 10
  have qm_c11 := qm.cell 11 rfl
  have qm_f11 := qm.frozen 11
  have qm_c12 := qm.cell 12 rfl
  have qm_f12 := qm.frozen 12
  have qm_c13 := qm.cell 13 rfl
  have qm_f13 := qm.frozen 13
  have zm := qm.lt
  go_wp2_with fail
  go_ret
  exact ⟨by first | rfl | (push_cast; rfl), g1.b, g1.gr⟩
theorem rsd_later8 (ix sub sq bl em size code sum n c : Nat) (tg la cr sz : Bool) (A : Option Addr) (data : List UInt8) (B g : Nat) (w : World) (h1 : sum ≤ 65535) (h2 : bl ≤ 127) (h3 : sq ≤ 127) (h4 : em ≤ 7) (hn : n = data.length) (hn7 : n ≤ 7) (hs : Sl w A (data.map bv)) (hB : Ow8 w B g 8 z8) (hg : g < w.heap.size) :
    Calls Try.prog 88 #[.agg #[.int .i64 8, .int .i64 (ix : Nat), .int .i64 (sub : Nat), .bool tg, .bool la, .bool cr, .bool sz, .int .u32 (size : Nat), .int .u32 (code : Nat), .slice A n c, .int .i64 (sq : Nat), .int .i64 (bl : Nat), .int .i64 (em : Nat), .int .u16 (sum : Nat)], .slice (some ⟨g, 0, none⟩) 8 8] w (LatR w B g (z8.set 4 (UInt8.ofNat bl)) (plB cr 160 4)) := by
  have hs1 := hs.alloc (.cells #[.int .i64 8, .int .i64 (ix : Nat), .int .i64 (sub : Nat), .bool tg, .bool la, .bool cr, .bool sz, .int .u32 (size : Nat), .int .u32 (code : Nat), .slice A n c, .int .i64 (sq : Nat), .int .i64 (bl : Nat), .int .i64 (em : Nat), .int .u16 (sum : Nat)] 43)
  have h0 : Rt w (w.alloc (.cells #[.int .i64 8, .int .i64 (ix : Nat), .int .i64 (sub : Nat), .bool tg, .bool la, .bool cr, .bool sz, .int .u32 (size : Nat), .int .u32 (code : Nat), .slice A n c, .int .i64 (sq : Nat), .int .i64 (bl : Nat), .int .i64 (em : Nat), .int .u16 (sum : Nat)] 43)) w.heap.size B g z8 #[.int .i64 8, .int .i64 (ix : Nat), .int .i64 (sub : Nat), .bool tg, .bool la, .bool cr, .bool sz, .int .u32 (size : Nat), .int .u32 (code : Nat), .slice A n c, .int .i64 (sq : Nat), .int .i64 (bl : Nat), .int .i64 (em : Nat), .int .u16 (sum : Nat)] :=
    ⟨blk_one w _ _, hB.alloc _, by omega, grown_alloc (World.grownBy.refl _ _) _, rfl⟩
  have HN := hide hn
  have h0' := hB
  clear hs hB hn
  obtain ⟨v4, k4, j4⟩ := h0.b.at8 4 (by omega)
  have hst := h0'.set8 4 (UInt8.ofNat bl)
  rw [← bv_small (by omega)] at hst
  have h5 : Rt w ((w.setCell ⟨g, 4, none⟩ (.int .u8 (bl : Nat))).alloc (.cells #[.int .i64 8, .int .i64 (ix : Nat), .int .i64 (sub : Nat), .bool tg, .bool la, .bool cr, .bool sz, .int .u32 (size : Nat), .int .u32 (code : Nat), .slice A n c, .int .i64 (sq : Nat), .int .i64 (bl : Nat), .int .i64 (em : Nat), .int .u16 (sum : Nat)] 43)) w.heap.size B g (z8.set 4 (UInt8.ofNat bl)) #[.int .i64 8, .int .i64 (ix : Nat), .int .i64 (sub : Nat), .bool tg, .bool la, .bool cr, .bool sz, .int .u32 (size : Nat), .int .u32 (code : Nat), .slice A n c, .int .i64 (sq : Nat), .int .i64 (bl : Nat), .int .i64 (em : Nat), .int .u16 (sum : Nat)] :=
    ⟨by have := blk_one (w.setCell ⟨g, 4, none⟩ (.int .u8 (bl : Nat))) 43 #[.int .i64 8, .int .i64 (ix : Nat), .int .i64 (sub : Nat), .bool tg, .bool la, .bool cr, .bool sz, .int .u32 (size : Nat), .int .u32 (code : Nat), .slice A n c, .int .i64 (sq : Nat), .int .i64 (bl : Nat), .int .i64 (em : Nat), .int .u16 (sum : Nat)]; simpa using this, hst.alloc _, by omega, grown_alloc (grown_set (World.grownBy.refl _ _) (.inl rfl) _ _) _, by simp [z8]⟩
  go_enter Try.func88, Try.ntmps88
  go_wp2_with fail
  refine (rsd_flag cr 4 _).mono ?_
  rintro e w2 ⟨rfl, rfl⟩
  cases cr
  all_goals
    go_wp2_with fail
    go_ret
    exact ⟨rfl, h5.b, h5.gr⟩
theorem rsd_later16 (ix sub sq bl em size code sum n c : Nat) (tg la cr sz : Bool) (A : Option Addr) (data : List UInt8) (B g : Nat) (w : World) (h1 : sum ≤ 65535) (h2 : bl ≤ 127) (h3 : sq ≤ 127) (h4 : em ≤ 7) (hn : n = data.length) (hn7 : n ≤ 7) (hs : Sl w A (data.map bv)) (hB : Ow8 w B g 8 z8) (hg : g < w.heap.size) :
    Calls Try.prog 88 #[.agg #[.int .i64 16, .int .i64 (ix : Nat), .int .i64 (sub : Nat), .bool tg, .bool la, .bool cr, .bool sz, .int .u32 (size : Nat), .int .u32 (code : Nat), .slice A n c, .int .i64 (sq : Nat), .int .i64 (bl : Nat), .int .i64 (em : Nat), .int .u16 (sum : Nat)], .slice (some ⟨g, 0, none⟩) 8 8] w (LatR w B g (z8.set 4 (UInt8.ofNat bl)) (plB cr 160 4)) := by
  have hs1 := hs.alloc (.cells #[.int .i64 16, .int .i64 (ix : Nat), .int .i64 (sub : Nat), .bool tg, .bool la, .bool cr, .bool sz, .int .u32 (size : Nat), .int .u32 (code : Nat), .slice A n c, .int .i64 (sq : Nat), .int .i64 (bl : Nat), .int .i64 (em : Nat), .int .u16 (sum : Nat)] 43)
  have h0 : Rt w (w.alloc (.cells #[.int .i64 16, .int .i64 (ix : Nat), .int .i64 (sub : Nat), .bool tg, .bool la, .bool cr, .bool sz, .int .u32 (size : Nat), .int .u32 (code : Nat), .slice A n c, .int .i64 (sq : Nat), .int .i64 (bl : Nat), .int .i64 (em : Nat), .int .u16 (sum : Nat)] 43)) w.heap.size B g z8 #[.int .i64 16, .int .i64 (ix : Nat), .int .i64 (sub : Nat), .bool tg, .bool la, .bool cr, .bool sz, .int .u32 (size : Nat), .int .u32 (code : Nat), .slice A n c, .int .i64 (sq : Nat), .int .i64 (bl : Nat), .int .i64 (em : Nat), .int .u16 (sum : Nat)] :=
    ⟨blk_one w _ _, hB.alloc _, by omega, grown_alloc (World.grownBy.refl _ _) _, rfl⟩
  have HN := hide hn
  have h0' := hB
  clear hs hB hn
  obtain ⟨v4, k4, j4⟩ := h0.b.at8 4 (by omega)
  have hst := h0'.set8 4 (UInt8.ofNat bl)
  rw [← bv_small (by omega)] at hst
  have h5 : Rt w ((w.setCell ⟨g, 4, none⟩ (.int .u8 (bl : Nat))).alloc (.cells #[.int .i64 16, .int .i64 (ix : Nat), .int .i64 (sub : Nat), .bool tg, .bool la, .bool cr, .bool sz, .int .u32 (size : Nat), .int .u32 (code : Nat), .slice A n c, .int .i64 (sq : Nat), .int .i64 (bl : Nat), .int .i64 (em : Nat), .int .u16 (sum : Nat)] 43)) w.heap.size B g (z8.set 4 (UInt8.ofNat bl)) #[.int .i64 16, .int .i64 (ix : Nat), .int .i64 (sub : Nat), .bool tg, .bool la, .bool cr, .bool sz, .int .u32 (size : Nat), .int .u32 (code : Nat), .slice A n c, .int .i64 (sq : Nat), .int .i64 (bl : Nat), .int .i64 (em : Nat), .int .u16 (sum : Nat)] :=
    ⟨by have := blk_one (w.setCell ⟨g, 4, none⟩ (.int .u8 (bl : Nat))) 43 #[.int .i64 16, .int .i64 (ix : Nat), .int .i64 (sub : Nat), .bool tg, .bool la, .bool cr, .bool sz, .int .u32 (size : Nat), .int .u32 (code : Nat), .slice A n c, .int .i64 (sq : Nat), .int .i64 (bl : Nat), .int .i64 (em : Nat), .int .u16 (sum : Nat)]; simpa using this, hst.alloc _, by omega, grown_alloc (grown_set (World.grownBy.refl _ _) (.inl rfl) _ _) _, by simp [z8]⟩
  go_enter Try.func88, Try.ntmps88
  go_wp2_with fail
  refine (rsd_flag cr 4 _).mono ?_
  rintro e w2 ⟨rfl, rfl⟩
  cases cr
  all_goals
    go_wp2_with fail
    go_ret
    exact ⟨rfl, h5.b, h5.gr⟩
theorem rsd_later9 (ix sub sq bl em size code sum n c : Nat) (tg la cr sz : Bool) (A : Option Addr) (data : List UInt8) (B g : Nat) (w : World) (h1 : sum ≤ 65535) (h2 : bl ≤ 127) (h3 : sq ≤ 127) (h4 : em ≤ 7) (hn : n = data.length) (hn7 : n ≤ 7) (hs : Sl w A (data.map bv)) (hB : Ow8 w B g 8 z8) (hg : g < w.heap.size) :
    Calls Try.prog 88 #[.agg #[.int .i64 9, .int .i64 (ix : Nat), .int .i64 (sub : Nat), .bool tg, .bool la, .bool cr, .bool sz, .int .u32 (size : Nat), .int .u32 (code : Nat), .slice A n c, .int .i64 (sq : Nat), .int .i64 (bl : Nat), .int .i64 (em : Nat), .int .u16 (sum : Nat)], .slice (some ⟨g, 0, none⟩) 8 8] w (LatR w B g (z8) (163)) := by
  have hs1 := hs.alloc (.cells #[.int .i64 9, .int .i64 (ix : Nat), .int .i64 (sub : Nat), .bool tg, .bool la, .bool cr, .bool sz, .int .u32 (size : Nat), .int .u32 (code : Nat), .slice A n c, .int .i64 (sq : Nat), .int .i64 (bl : Nat), .int .i64 (em : Nat), .int .u16 (sum : Nat)] 43)
  have h0 : Rt w (w.alloc (.cells #[.int .i64 9, .int .i64 (ix : Nat), .int .i64 (sub : Nat), .bool tg, .bool la, .bool cr, .bool sz, .int .u32 (size : Nat), .int .u32 (code : Nat), .slice A n c, .int .i64 (sq : Nat), .int .i64 (bl : Nat), .int .i64 (em : Nat), .int .u16 (sum : Nat)] 43)) w.heap.size B g z8 #[.int .i64 9, .int .i64 (ix : Nat), .int .i64 (sub : Nat), .bool tg, .bool la, .bool cr, .bool sz, .int .u32 (size : Nat), .int .u32 (code : Nat), .slice A n c, .int .i64 (sq : Nat), .int .i64 (bl : Nat), .int .i64 (em : Nat), .int .u16 (sum : Nat)] :=
    ⟨blk_one w _ _, hB.alloc _, by omega, grown_alloc (World.grownBy.refl _ _) _, rfl⟩
  have HN := hide hn
  clear hs hB hn
  go_enter Try.func88, Try.ntmps88
  go_wp2_with fail
  go_ret
  exact ⟨rfl, h0.b, h0.gr⟩
theorem rsd_later10 (ix sub sq bl em size code sum n c : Nat) (tg la cr sz : Bool) (A : Option Addr) (data : List UInt8) (B g : Nat) (w : World) (h1 : sum ≤ 65535) (h2 : bl ≤ 127) (h3 : sq ≤ 127) (h4 : em ≤ 7) (hn : n = data.length) (hn7 : n ≤ 7) (hs : Sl w A (data.map bv)) (hB : Ow8 w B g 8 z8) (hg : g < w.heap.size) :
    Calls Try.prog 88 #[.agg #[.int .i64 10, .int .i64 (ix : Nat), .int .i64 (sub : Nat), .bool tg, .bool la, .bool cr, .bool sz, .int .u32 (size : Nat), .int .u32 (code : Nat), .slice A n c, .int .i64 (sq : Nat), .int .i64 (bl : Nat), .int .i64 (em : Nat), .int .u16 (sum : Nat)], .slice (some ⟨g, 0, none⟩) 8 8] w (LatR w B g ((z8.set 1 (UInt8.ofNat sq)).set 2 (UInt8.ofNat bl)) (162)) := by
  have hs1 := hs.alloc (.cells #[.int .i64 10, .int .i64 (ix : Nat), .int .i64 (sub : Nat), .bool tg, .bool la, .bool cr, .bool sz, .int .u32 (size : Nat), .int .u32 (code : Nat), .slice A n c, .int .i64 (sq : Nat), .int .i64 (bl : Nat), .int .i64 (em : Nat), .int .u16 (sum : Nat)] 43)
  have h0 : Rt w (w.alloc (.cells #[.int .i64 10, .int .i64 (ix : Nat), .int .i64 (sub : Nat), .bool tg, .bool la, .bool cr, .bool sz, .int .u32 (size : Nat), .int .u32 (code : Nat), .slice A n c, .int .i64 (sq : Nat), .int .i64 (bl : Nat), .int .i64 (em : Nat), .int .u16 (sum : Nat)] 43)) w.heap.size B g z8 #[.int .i64 10, .int .i64 (ix : Nat), .int .i64 (sub : Nat), .bool tg, .bool la, .bool cr, .bool sz, .int .u32 (size : Nat), .int .u32 (code : Nat), .slice A n c, .int .i64 (sq : Nat), .int .i64 (bl : Nat), .int .i64 (em : Nat), .int .u16 (sum : Nat)] :=
    ⟨blk_one w _ _, hB.alloc _, by omega, grown_alloc (World.grownBy.refl _ _) _, rfl⟩
  have HN := hide hn
  have h0' := hB
  clear hs hB hn
  obtain ⟨v1, k1, j1⟩ := h0'.at8 1 (by omega)
  obtain ⟨v2, k2, j2⟩ := h0'.at8 2 (by omega)
  have hst := (h0'.set8 1 (UInt8.ofNat sq)).set8 2 (UInt8.ofNat bl)
  rw [← bv_small (by omega), ← bv_small (by omega)] at hst
  have h5 : Rt w (((w.setCell ⟨g, 1, none⟩ (.int .u8 (sq : Nat))).setCell ⟨g, 2, none⟩ (.int .u8 (bl : Nat))).alloc (.cells #[.int .i64 10, .int .i64 (ix : Nat), .int .i64 (sub : Nat), .bool tg, .bool la, .bool cr, .bool sz, .int .u32 (size : Nat), .int .u32 (code : Nat), .slice A n c, .int .i64 (sq : Nat), .int .i64 (bl : Nat), .int .i64 (em : Nat), .int .u16 (sum : Nat)] 43)) w.heap.size B g ((z8.set 1 (UInt8.ofNat sq)).set 2 (UInt8.ofNat bl)) #[.int .i64 10, .int .i64 (ix : Nat), .int .i64 (sub : Nat), .bool tg, .bool la, .bool cr, .bool sz, .int .u32 (size : Nat), .int .u32 (code : Nat), .slice A n c, .int .i64 (sq : Nat), .int .i64 (bl : Nat), .int .i64 (em : Nat), .int .u16 (sum : Nat)] :=
    ⟨by have := blk_one ((w.setCell ⟨g, 1, none⟩ (.int .u8 (sq : Nat))).setCell ⟨g, 2, none⟩ (.int .u8 (bl : Nat))) 43 #[.int .i64 10, .int .i64 (ix : Nat), .int .i64 (sub : Nat), .bool tg, .bool la, .bool cr, .bool sz, .int .u32 (size : Nat), .int .u32 (code : Nat), .slice A n c, .int .i64 (sq : Nat), .int .i64 (bl : Nat), .int .i64 (em : Nat), .int .u16 (sum : Nat)]; simpa using this, hst.alloc _, by omega, grown_alloc (grown_set (grown_set (World.grownBy.refl _ _) (.inl rfl) _ _) (.inl rfl) _ _) _, by simp [z8]⟩
  go_enter Try.func88, Try.ntmps88
  go_wp2_with fail
  go_ret
  exact ⟨rfl, h5.b, h5.gr⟩
theorem rsd_later17 (ix sub sq bl em size code sum n c : Nat) (tg la cr sz : Bool) (A : Option Addr) (data : List UInt8) (B g : Nat) (w : World) (h1 : sum ≤ 65535) (h2 : bl ≤ 127) (h3 : sq ≤ 127) (h4 : em ≤ 7) (hn : n = data.length) (hn7 : n ≤ 7) (hs : Sl w A (data.map bv)) (hB : Ow8 w B g 8 z8) (hg : g < w.heap.size) :
    Calls Try.prog 88 #[.agg #[.int .i64 17, .int .i64 (ix : Nat), .int .i64 (sub : Nat), .bool tg, .bool la, .bool cr, .bool sz, .int .u32 (size : Nat), .int .u32 (code : Nat), .slice A n c, .int .i64 (sq : Nat), .int .i64 (bl : Nat), .int .i64 (em : Nat), .int .u16 (sum : Nat)], .slice (some ⟨g, 0, none⟩) 8 8] w (LatR w B g ((z8.set 1 (UInt8.ofNat sq)).set 2 (UInt8.ofNat bl)) (162)) := by
  have hs1 := hs.alloc (.cells #[.int .i64 17, .int .i64 (ix : Nat), .int .i64 (sub : Nat), .bool tg, .bool la, .bool cr, .bool sz, .int .u32 (size : Nat), .int .u32 (code : Nat), .slice A n c, .int .i64 (sq : Nat), .int .i64 (bl : Nat), .int .i64 (em : Nat), .int .u16 (sum : Nat)] 43)
  have h0 : Rt w (w.alloc (.cells #[.int .i64 17, .int .i64 (ix : Nat), .int .i64 (sub : Nat), .bool tg, .bool la, .bool cr, .bool sz, .int .u32 (size : Nat), .int .u32 (code : Nat), .slice A n c, .int .i64 (sq : Nat), .int .i64 (bl : Nat), .int .i64 (em : Nat), .int .u16 (sum : Nat)] 43)) w.heap.size B g z8 #[.int .i64 17, .int .i64 (ix : Nat), .int .i64 (sub : Nat), .bool tg, .bool la, .bool cr, .bool sz, .int .u32 (size : Nat), .int .u32 (code : Nat), .slice A n c, .int .i64 (sq : Nat), .int .i64 (bl : Nat), .int .i64 (em : Nat), .int .u16 (sum : Nat)] :=
    ⟨blk_one w _ _, hB.alloc _, by omega, grown_alloc (World.grownBy.refl _ _) _, rfl⟩
  have HN := hide hn
  have h0' := hB
  clear hs hB hn
  obtain ⟨v1, k1, j1⟩ := h0'.at8 1 (by omega)
  obtain ⟨v2, k2, j2⟩ := h0'.at8 2 (by omega)
  have hst := (h0'.set8 1 (UInt8.ofNat sq)).set8 2 (UInt8.ofNat bl)
  rw [← bv_small (by omega), ← bv_small (by omega)] at hst
  have h5 : Rt w (((w.setCell ⟨g, 1, none⟩ (.int .u8 (sq : Nat))).setCell ⟨g, 2, none⟩ (.int .u8 (bl : Nat))).alloc (.cells #[.int .i64 17, .int .i64 (ix : Nat), .int .i64 (sub : Nat), .bool tg, .bool la, .bool cr, .bool sz, .int .u32 (size : Nat), .int .u32 (code : Nat), .slice A n c, .int .i64 (sq : Nat), .int .i64 (bl : Nat), .int .i64 (em : Nat), .int .u16 (sum : Nat)] 43)) w.heap.size B g ((z8.set 1 (UInt8.ofNat sq)).set 2 (UInt8.ofNat bl)) #[.int .i64 17, .int .i64 (ix : Nat), .int .i64 (sub : Nat), .bool tg, .bool la, .bool cr, .bool sz, .int .u32 (size : Nat), .int .u32 (code : Nat), .slice A n c, .int .i64 (sq : Nat), .int .i64 (bl : Nat), .int .i64 (em : Nat), .int .u16 (sum : Nat)] :=
    ⟨by have := blk_one ((w.setCell ⟨g, 1, none⟩ (.int .u8 (sq : Nat))).setCell ⟨g, 2, none⟩ (.int .u8 (bl : Nat))) 43 #[.int .i64 17, .int .i64 (ix : Nat), .int .i64 (sub : Nat), .bool tg, .bool la, .bool cr, .bool sz, .int .u32 (size : Nat), .int .u32 (code : Nat), .slice A n c, .int .i64 (sq : Nat), .int .i64 (bl : Nat), .int .i64 (em : Nat), .int .u16 (sum : Nat)]; simpa using this, hst.alloc _, by omega, grown_alloc (grown_set (grown_set (World.grownBy.refl _ _) (.inl rfl) _ _) (.inl rfl) _ _) _, by simp [z8]⟩
  go_enter Try.func88, Try.ntmps88
  go_wp2_with fail
  go_ret
  exact ⟨rfl, h5.b, h5.gr⟩
theorem rsd_later11 (ix sub sq bl em size code sum n c : Nat) (tg la cr sz : Bool) (A : Option Addr) (data : List UInt8) (B g : Nat) (w : World) (h1 : sum ≤ 65535) (h2 : bl ≤ 127) (h3 : sq ≤ 127) (h4 : em ≤ 7) (hn : n = data.length) (hn7 : n ≤ 7) (hs : Sl w A (data.map bv)) (hB : Ow8 w B g 8 z8) (hg : g < w.heap.size) :
    Calls Try.prog 88 #[.agg #[.int .i64 11, .int .i64 (ix : Nat), .int .i64 (sub : Nat), .bool tg, .bool la, .bool cr, .bool sz, .int .u32 (size : Nat), .int .u32 (code : Nat), .slice A n c, .int .i64 (sq : Nat), .int .i64 (bl : Nat), .int .i64 (em : Nat), .int .u16 (sum : Nat)], .slice (some ⟨g, 0, none⟩) 8 8] w (LatR w B g (z8) (161)) := by
  have hs1 := hs.alloc (.cells #[.int .i64 11, .int .i64 (ix : Nat), .int .i64 (sub : Nat), .bool tg, .bool la, .bool cr, .bool sz, .int .u32 (size : Nat), .int .u32 (code : Nat), .slice A n c, .int .i64 (sq : Nat), .int .i64 (bl : Nat), .int .i64 (em : Nat), .int .u16 (sum : Nat)] 43)
  have h0 : Rt w (w.alloc (.cells #[.int .i64 11, .int .i64 (ix : Nat), .int .i64 (sub : Nat), .bool tg, .bool la, .bool cr, .bool sz, .int .u32 (size : Nat), .int .u32 (code : Nat), .slice A n c, .int .i64 (sq : Nat), .int .i64 (bl : Nat), .int .i64 (em : Nat), .int .u16 (sum : Nat)] 43)) w.heap.size B g z8 #[.int .i64 11, .int .i64 (ix : Nat), .int .i64 (sub : Nat), .bool tg, .bool la, .bool cr, .bool sz, .int .u32 (size : Nat), .int .u32 (code : Nat), .slice A n c, .int .i64 (sq : Nat), .int .i64 (bl : Nat), .int .i64 (em : Nat), .int .u16 (sum : Nat)] :=
    ⟨blk_one w _ _, hB.alloc _, by omega, grown_alloc (World.grownBy.refl _ _) _, rfl⟩
  have HN := hide hn
  clear hs hB hn
  go_enter Try.func88, Try.ntmps88
  go_wp2_with fail
  go_ret
  exact ⟨rfl, h0.b, h0.gr⟩
theorem rsd_later18 (ix sub sq bl em size code sum n c : Nat) (tg la cr sz : Bool) (A : Option Addr) (data : List UInt8) (B g : Nat) (w : World) (h1 : sum ≤ 65535) (h2 : bl ≤ 127) (h3 : sq ≤ 127) (h4 : em ≤ 7) (hn : n = data.length) (hn7 : n ≤ 7) (hs : Sl w A (data.map bv)) (hB : Ow8 w B g 8 z8) (hg : g < w.heap.size) :
    Calls Try.prog 88 #[.agg #[.int .i64 18, .int .i64 (ix : Nat), .int .i64 (sub : Nat), .bool tg, .bool la, .bool cr, .bool sz, .int .u32 (size : Nat), .int .u32 (code : Nat), .slice A n c, .int .i64 (sq : Nat), .int .i64 (bl : Nat), .int .i64 (em : Nat), .int .u16 (sum : Nat)], .slice (some ⟨g, 0, none⟩) 8 8] w (LatR w B g (z8) (161)) := by
  have hs1 := hs.alloc (.cells #[.int .i64 18, .int .i64 (ix : Nat), .int .i64 (sub : Nat), .bool tg, .bool la, .bool cr, .bool sz, .int .u32 (size : Nat), .int .u32 (code : Nat), .slice A n c, .int .i64 (sq : Nat), .int .i64 (bl : Nat), .int .i64 (em : Nat), .int .u16 (sum : Nat)] 43)
  have h0 : Rt w (w.alloc (.cells #[.int .i64 18, .int .i64 (ix : Nat), .int .i64 (sub : Nat), .bool tg, .bool la, .bool cr, .bool sz, .int .u32 (size : Nat), .int .u32 (code : Nat), .slice A n c, .int .i64 (sq : Nat), .int .i64 (bl : Nat), .int .i64 (em : Nat), .int .u16 (sum : Nat)] 43)) w.heap.size B g z8 #[.int .i64 18, .int .i64 (ix : Nat), .int .i64 (sub : Nat), .bool tg, .bool la, .bool cr, .bool sz, .int .u32 (size : Nat), .int .u32 (code : Nat), .slice A n c, .int .i64 (sq : Nat), .int .i64 (bl : Nat), .int .i64 (em : Nat), .int .u16 (sum : Nat)] :=
    ⟨blk_one w _ _, hB.alloc _, by omega, grown_alloc (World.grownBy.refl _ _) _, rfl⟩
  have HN := hide hn
  clear hs hB hn
  go_enter Try.func88, Try.ntmps88
  go_wp2_with fail
  go_ret
  exact ⟨rfl, h0.b, h0.gr⟩
theorem rsd_later12 (ix sub sq bl em size code sum n c : Nat) (tg la cr sz : Bool) (A : Option Addr) (data : List UInt8) (B g : Nat) (w : World) (h1 : sum ≤ 65535) (h2 : bl ≤ 127) (h3 : sq ≤ 127) (h4 : em ≤ 7) (hn : n = data.length) (hn7 : n ≤ 7) (hs : Sl w A (data.map bv)) (hB : Ow8 w B g 8 z8) (hg : g < w.heap.size) :
    Calls Try.prog 88 #[.agg #[.int .i64 12, .int .i64 (ix : Nat), .int .i64 (sub : Nat), .bool tg, .bool la, .bool cr, .bool sz, .int .u32 (size : Nat), .int .u32 (code : Nat), .slice A n c, .int .i64 (sq : Nat), .int .i64 (bl : Nat), .int .i64 (em : Nat), .int .u16 (sum : Nat)], .slice (some ⟨g, 0, none⟩) 8 8] w (LatR w B g (z8) (96)) := by
  have hs1 := hs.alloc (.cells #[.int .i64 12, .int .i64 (ix : Nat), .int .i64 (sub : Nat), .bool tg, .bool la, .bool cr, .bool sz, .int .u32 (size : Nat), .int .u32 (code : Nat), .slice A n c, .int .i64 (sq : Nat), .int .i64 (bl : Nat), .int .i64 (em : Nat), .int .u16 (sum : Nat)] 43)
  have h0 : Rt w (w.alloc (.cells #[.int .i64 12, .int .i64 (ix : Nat), .int .i64 (sub : Nat), .bool tg, .bool la, .bool cr, .bool sz, .int .u32 (size : Nat), .int .u32 (code : Nat), .slice A n c, .int .i64 (sq : Nat), .int .i64 (bl : Nat), .int .i64 (em : Nat), .int .u16 (sum : Nat)] 43)) w.heap.size B g z8 #[.int .i64 12, .int .i64 (ix : Nat), .int .i64 (sub : Nat), .bool tg, .bool la, .bool cr, .bool sz, .int .u32 (size : Nat), .int .u32 (code : Nat), .slice A n c, .int .i64 (sq : Nat), .int .i64 (bl : Nat), .int .i64 (em : Nat), .int .u16 (sum : Nat)] :=
    ⟨blk_one w _ _, hB.alloc _, by omega, grown_alloc (World.grownBy.refl _ _) _, rfl⟩
  have HN := hide hn
  clear hs hB hn
  go_enter Try.func88, Try.ntmps88
  go_wp2_with fail
  go_ret
  exact ⟨rfl, h0.b, h0.gr⟩
theorem rsd_later13 (ix sub sq bl em size code sum n c : Nat) (tg la cr sz : Bool) (A : Option Addr) (data : List UInt8) (B g : Nat) (w : World) (h1 : sum ≤ 65535) (h2 : bl ≤ 127) (h3 : sq ≤ 127) (h4 : em ≤ 7) (hn : n = data.length) (hn7 : n ≤ 7) (hs : Sl w A (data.map bv)) (hB : Ow8 w B g 8 z8) (hg : g < w.heap.size) :
    Calls Try.prog 88 #[.agg #[.int .i64 13, .int .i64 (ix : Nat), .int .i64 (sub : Nat), .bool tg, .bool la, .bool cr, .bool sz, .int .u32 (size : Nat), .int .u32 (code : Nat), .slice A n c, .int .i64 (sq : Nat), .int .i64 (bl : Nat), .int .i64 (em : Nat), .int .u16 (sum : Nat)], .slice (some ⟨g, 0, none⟩) 8 8] w (LatR w B g (z8) (plB tg 32 16)) := by
  have hs1 := hs.alloc (.cells #[.int .i64 13, .int .i64 (ix : Nat), .int .i64 (sub : Nat), .bool tg, .bool la, .bool cr, .bool sz, .int .u32 (size : Nat), .int .u32 (code : Nat), .slice A n c, .int .i64 (sq : Nat), .int .i64 (bl : Nat), .int .i64 (em : Nat), .int .u16 (sum : Nat)] 43)
  have h0 : Rt w (w.alloc (.cells #[.int .i64 13, .int .i64 (ix : Nat), .int .i64 (sub : Nat), .bool tg, .bool la, .bool cr, .bool sz, .int .u32 (size : Nat), .int .u32 (code : Nat), .slice A n c, .int .i64 (sq : Nat), .int .i64 (bl : Nat), .int .i64 (em : Nat), .int .u16 (sum : Nat)] 43)) w.heap.size B g z8 #[.int .i64 13, .int .i64 (ix : Nat), .int .i64 (sub : Nat), .bool tg, .bool la, .bool cr, .bool sz, .int .u32 (size : Nat), .int .u32 (code : Nat), .slice A n c, .int .i64 (sq : Nat), .int .i64 (bl : Nat), .int .i64 (em : Nat), .int .u16 (sum : Nat)] :=
    ⟨blk_one w _ _, hB.alloc _, by omega, grown_alloc (World.grownBy.refl _ _) _, rfl⟩
  have HN := hide hn
  clear hs hB hn
  go_enter Try.func88, Try.ntmps88
  go_wp2_with fail
  refine (rsd_flag tg 16 _).mono ?_
  rintro e w2 ⟨rfl, rfl⟩
  have hpl := plB_int tg 32 16
  cases tg
  all_goals
    go_wp2_with fail
    go_ret
    exact ⟨rfl, h0.b, h0.gr⟩
theorem rsd_later21 (ix sub sq bl em size code sum n c : Nat) (tg la cr sz : Bool) (A : Option Addr) (data : List UInt8) (B g : Nat) (w : World) (h1 : sum ≤ 65535) (h2 : bl ≤ 127) (h3 : sq ≤ 127) (h4 : em ≤ 7) (hn : n = data.length) (hn7 : n ≤ 7) (hs : Sl w A (data.map bv)) (hB : Ow8 w B g 8 z8) (hg : g < w.heap.size) :
    Calls Try.prog 88 #[.agg #[.int .i64 21, .int .i64 (ix : Nat), .int .i64 (sub : Nat), .bool tg, .bool la, .bool cr, .bool sz, .int .u32 (size : Nat), .int .u32 (code : Nat), .slice A n c, .int .i64 (sq : Nat), .int .i64 (bl : Nat), .int .i64 (em : Nat), .int .u16 (sum : Nat)], .slice (some ⟨g, 0, none⟩) 8 8] w (LatR w B g (cpL z8 1 data) (plB la sq 128)) := by
  have hs1 := hs.alloc (.cells #[.int .i64 21, .int .i64 (ix : Nat), .int .i64 (sub : Nat), .bool tg, .bool la, .bool cr, .bool sz, .int .u32 (size : Nat), .int .u32 (code : Nat), .slice A n c, .int .i64 (sq : Nat), .int .i64 (bl : Nat), .int .i64 (em : Nat), .int .u16 (sum : Nat)] 43)
  have h0 : Rt w (w.alloc (.cells #[.int .i64 21, .int .i64 (ix : Nat), .int .i64 (sub : Nat), .bool tg, .bool la, .bool cr, .bool sz, .int .u32 (size : Nat), .int .u32 (code : Nat), .slice A n c, .int .i64 (sq : Nat), .int .i64 (bl : Nat), .int .i64 (em : Nat), .int .u16 (sum : Nat)] 43)) w.heap.size B g z8 #[.int .i64 21, .int .i64 (ix : Nat), .int .i64 (sub : Nat), .bool tg, .bool la, .bool cr, .bool sz, .int .u32 (size : Nat), .int .u32 (code : Nat), .slice A n c, .int .i64 (sq : Nat), .int .i64 (bl : Nat), .int .i64 (em : Nat), .int .u16 (sum : Nat)] :=
    ⟨blk_one w _ _, hB.alloc _, by omega, grown_alloc (World.grownBy.refl _ _) _, rfl⟩
  have HN := hide hn
  clear hs hB hn
  go_enter Try.func88, Try.ntmps88
  go_wp2_with fail
  have zm := h0.m.lt
  generalize w.alloc (.cells #[.int .i64 21, .int .i64 (ix : Nat), .int .i64 (sub : Nat), .bool tg, .bool la, .bool cr, .bool sz, .int .u32 (size : Nat), .int .u32 (code : Nat), .slice A n c, .int .i64 (sq : Nat), .int .i64 (bl : Nat), .int .i64 (em : Nat), .int .u16 (sum : Nat)] 43) = W at *
  have qm := h0.m
  have qm_c0 := qm.cell 0 rfl
  have qm_f0 := qm.frozen 0
  have qm_c1 := qm.cell 1 rfl
  have qm_f1 := qm.frozen 1
  have qm_c2 := qm.cell 2 rfl
  have qm_f2 := qm.frozen 2
  have qm_c3 := qm.cell 3 rfl
  have qm_f3 := qm.frozen 3
  have qm_c4 := qm.cell 4 rfl
  have qm_f4 := qm.frozen 4
  have qm_c5 := qm.cell 5 rfl
  have qm_f5 := qm.frozen 5
  have qm_c6 := qm.cell 6 rfl
  have qm_f6 := qm.frozen 6
  have qm_c7 := qm.cell 7 rfl
  have qm_f7 := qm.frozen 7
  have qm_c8 := qm.cell 8 rfl
  have qm_f8 := qm.frozen 8
  have qm_c9 := qm.cell 9 rfl
  have qm_f9 := qm.frozen 9
  have qm_c10 := qm.cell 10 rfl
  have qm_f10 := qm.frozen 10
  have qm_c11 := qm.cell 11 rfl
  have qm_f11 := qm.frozen 11
  have qm_c12 := qm.cell 12 rfl
  have qm_f12 := qm.frozen 12
  have qm_c13 := qm.cell 13 rfl
  have qm_f13 := qm.frozen 13
  obtain ⟨W9, hrun, g9, _⟩ := rt_copy A n c 1 7 data h0.drew HN.out rfl (by omega) hs1.drew
  refine wp_region_held_drew (S := (fun w' => w'.cell? ⟨w.heap.size, 9, none⟩ = some (.slice A n c))) (by kernel_rfl) ?hS1 (fun hHeld => ?rest1)
  case hS1 => ((try dsimp only); (exact h0.m.cell 9 rfl))
  case' rest1 => skip
  refine wpAnyH_take (i := 0) (oi := _) (v := ?v2) rfl (by kernel_rfl) (by kernel_rfl) (by kernel_rfl) (fun _ _ _ h => h) (Or.inl ⟨by rfl, ?hy2⟩) (by assumption) ?rest2
  case hy2 => ((intro w hSw; (try dsimp only at hSw); go_simp) <;> with_reducible rfl)
  case' rest2 => try simp only [List.getElem_toArray, List.getElem_cons_zero, List.getElem_cons_succ, Act.put, List.setIfInBounds_toArray, List.set_cons_zero, List.set_cons_succ]
  refine wpAnyH_take (i := 1) (oi := _) (v := ?v3) rfl (by kernel_rfl) (by kernel_rfl) (by kernel_rfl) (fun _ _ _ h => h) (Or.inl ⟨by rfl, ?hy3⟩) (by assumption) ?rest3
  case hy3 => ((intro w hSw; (try dsimp only at hSw); go_simp) <;> with_reducible rfl)
  case' rest3 => try simp only [List.getElem_toArray, List.getElem_cons_zero, List.getElem_cons_succ, Act.put, List.setIfInBounds_toArray, List.set_cons_zero, List.set_cons_succ]
  refine wpAnyH_take (i := 2) (oi := _) (v := ?v4) rfl (by kernel_rfl) (by kernel_rfl) (by kernel_rfl) (fun _ _ _ h => h) (Or.inl ⟨by rfl, ?hy4⟩) (by assumption) ?rest4
  case hy4 => ((intro w hSw; (try dsimp only at hSw); go_simp) <;> with_reducible rfl)
  case' rest4 => try simp only [List.getElem_toArray, List.getElem_cons_zero, List.getElem_cons_succ, Act.put, List.setIfInBounds_toArray, List.set_cons_zero, List.set_cons_succ]
  refine wpAnyH_take (i := 3) (oi := _) (v := ?v5) rfl (by kernel_rfl) (by kernel_rfl) (by kernel_rfl) (fun _ _ _ h => h) (Or.inl ⟨by rfl, ?hy5⟩) (by assumption) ?rest5
  case hy5 => ((intro w hSw; (try dsimp only at hSw); go_simp) <;> with_reducible rfl)
  case' rest5 => try simp only [List.getElem_toArray, List.getElem_cons_zero, List.getElem_cons_succ, Act.put, List.setIfInBounds_toArray, List.set_cons_zero, List.set_cons_succ]
  refine wpAnyH_ready (rs := [4]) (by kernel_rfl) (by simp) ?_
  refine AllReadyH.cons (o := _) rfl (fun K hK => ?_) AllReadyH.nil
  go_simp
  refine hK.out _ _ ?hS8 (fun hHeld => ?rest8)
  case hS8 => ((try dsimp only); (exact g9.m.cell 9 rfl))
  case' rest8 => (clear hK K; try simp only [List.getElem_toArray, List.getElem_cons_zero, List.getElem_cons_succ, Act.put, List.setIfInBounds_toArray, List.set_cons_zero, List.set_cons_succ])
  refine wpAnyH_done (by kernel_rfl) ?_ _
  repeat (clear hHeld)
  clear qm_c0 qm_f0 qm_c1 qm_f1 qm_c2 qm_f2 qm_c3 qm_f3 qm_c4 qm_f4 qm_c5 qm_f5 qm_c6 qm_f6 qm_c7 qm_f7 qm_c8 qm_f8 qm_c9 qm_f9 qm_c10 qm_f10 qm_c11 qm_f11 qm_c12 qm_f12 qm_c13 qm_f13
  clear zm qm
  have qm := g9.m
  have qm_c0 := qm.cell 0 rfl
  have qm_f0 := qm.frozen 0
  have qm_c1 := qm.cell 1 rfl
  have qm_f1 := qm.frozen 1
  have qm_c2 := qm.cell 2 rfl
  have qm_f2 := qm.frozen 2
  have qm_c3 := qm.cell 3 rfl
  have qm_f3 := qm.frozen 3
  have qm_c4 := qm.cell 4 rfl
  have qm_f4 := qm.frozen 4
  have qm_c5 := qm.cell 5 rfl
  have qm_f5 := qm.frozen 5
  have qm_c6 := qm.cell 6 rfl
  have qm_f6 := qm.frozen 6
  have qm_c7 := qm.cell 7 rfl
  have qm_f7 := qm.frozen 7
  have qm_c8 := qm.cell 8 rfl
  have qm_f8 := qm.frozen 8
  have qm_c9 := qm.cell 9 rfl
  have qm_f9 := qm.frozen 9
  have qm_c10 := qm.cell 10 rfl
  have qm_f10 := qm.frozen 10
  have qm_c11 := qm.cell 11 rfl
  have qm_f11 := qm.frozen 11
  have qm_c12 := qm.cell 12 rfl
  have qm_f12 := qm.frozen 12
  have qm_c13 := qm.cell 13 rfl
  have qm_f13 := qm.frozen 13
  have zm := qm.lt
  clear hrun
  go_wp2_with fail
  refine wp_region_held_drew (S := (fun w' => (∀ p : Addr, p.block < (W9).heap.size → w'.cell? p = (W9).cell? p) ∧ Below (W9).heap.size (W9) w')) (by kernel_rfl) ?hS9 (fun hHeld => ?rest9)
  case hS9 => ((try dsimp only); (((try go_split_ands); refine sn_of ?_; repeat' (first | with_reducible assumption | with_reducible exact Below.refl _ _ | with_reducible apply below_alloc | with_reducible apply below_drew1 | with_reducible apply below_drewN | (with_reducible apply below_step; with_reducible assumption) | (with_reducible apply below_sg2; (first | exact Nat.le_refl _ | (simp; done) | omega))))))
  case' rest9 => skip
  refine wpAnyH_take (i := 0) (oi := _) (v := ?v10) rfl (by kernel_rfl) (by kernel_rfl) (by kernel_rfl) (fun _ _ _ h => h) (Or.inl ⟨by rfl, ?hy10⟩) (by assumption) ?rest10
  case hy10 => ((intro w hSw; (try dsimp only at hSw); go_simp) <;> with_reducible rfl)
  case' rest10 => try simp only [List.getElem_toArray, List.getElem_cons_zero, List.getElem_cons_succ, Act.put, List.setIfInBounds_toArray, List.set_cons_zero, List.set_cons_succ]
  refine wpAnyH_take (i := 1) (oi := _) (v := ?v11) rfl (by kernel_rfl) (by kernel_rfl) (by kernel_rfl) (fun _ _ _ h => h) (Or.inl ⟨by rfl, ?hy11⟩) (by assumption) ?rest11
  case hy11 => ((intro w hSw; (try dsimp only at hSw); go_simp) <;> with_reducible rfl)
  case' rest11 => try simp only [List.getElem_toArray, List.getElem_cons_zero, List.getElem_cons_succ, Act.put, List.setIfInBounds_toArray, List.set_cons_zero, List.set_cons_succ]
  refine wpAnyH_take (i := 2) (oi := _) (v := ?v12) rfl (by kernel_rfl) (by kernel_rfl) (by kernel_rfl) (fun _ _ _ h => h) (Or.inl ⟨by rfl, ?hy12⟩) (by assumption) ?rest12
  case hy12 => ((intro w hSw; (try dsimp only at hSw); go_simp) <;> with_reducible rfl)
  case' rest12 => try simp only [List.getElem_toArray, List.getElem_cons_zero, List.getElem_cons_succ, Act.put, List.setIfInBounds_toArray, List.set_cons_zero, List.set_cons_succ]
  refine wpAnyH_take (i := 3) (oi := _) (v := ?v13) rfl (by kernel_rfl) (by kernel_rfl) (by kernel_rfl) (fun _ _ _ h => h) (Or.inl ⟨by rfl, ?hy13⟩) (by assumption) ?rest13
  case hy13 => ((intro w hSw; (try dsimp only at hSw); go_simp) <;> with_reducible rfl)
  case' rest13 => try simp only [List.getElem_toArray, List.getElem_cons_zero, List.getElem_cons_succ, Act.put, List.setIfInBounds_toArray, List.set_cons_zero, List.set_cons_succ]
  refine wpAnyH_ready (rs := [4]) (by kernel_rfl) (by simp) ?_
  refine AllReadyH.cons (o := _) rfl (fun K hK => ?_) AllReadyH.nil
  go_simp
  refine (rsd_flag la 128 _).mono ?_
  rintro e w2 ⟨rfl, rfl⟩
  try dsimp only
  refine hK.out _ _ ?hS16 (fun hHeld => ?rest16)
  case hS16 => ((try dsimp only); (((try go_split_ands); refine sn_of ?_; repeat' (first | with_reducible assumption | with_reducible exact Below.refl _ _ | with_reducible apply below_alloc | with_reducible apply below_drew1 | with_reducible apply below_drewN | (with_reducible apply below_step; with_reducible assumption) | (with_reducible apply below_sg2; (first | exact Nat.le_refl _ | (simp; done) | omega))))))
  case' rest16 => (clear hK K; try simp only [List.getElem_toArray, List.getElem_cons_zero, List.getElem_cons_succ, Act.put, List.setIfInBounds_toArray, List.set_cons_zero, List.set_cons_succ])
  refine wpAnyH_ready (rs := [5]) (by kernel_rfl) (by simp) ?_
  refine AllReadyH.cons (o := _) rfl (fun K hK => ?_) AllReadyH.nil
  go_simp
  refine hK.out _ _ ?hS19 (fun hHeld => ?rest19)
  case hS19 => ((try dsimp only); (((try go_split_ands); refine sn_of ?_; repeat' (first | with_reducible assumption | with_reducible exact Below.refl _ _ | with_reducible apply below_alloc | with_reducible apply below_drew1 | with_reducible apply below_drewN | (with_reducible apply below_step; with_reducible assumption) | (with_reducible apply below_sg2; (first | exact Nat.le_refl _ | (simp; done) | omega))))))
  case' rest19 => (clear hK K; try simp only [List.getElem_toArray, List.getElem_cons_zero, List.getElem_cons_succ, Act.put, List.setIfInBounds_toArray, List.set_cons_zero, List.set_cons_succ])
  refine wpAnyH_ready (rs := [6]) (by kernel_rfl) (by simp) ?_
  refine AllReadyH.cons (o := _) rfl (fun K hK => ?_) AllReadyH.nil
  go_simp
  refine hK.out _ _ ?hS22 (fun hHeld => ?rest22)
  case hS22 => ((try dsimp only); (((try go_split_ands); refine sn_of ?_; repeat' (first | with_reducible assumption | with_reducible exact Below.refl _ _ | with_reducible apply below_alloc | with_reducible apply below_drew1 | with_reducible apply below_drewN | (with_reducible apply below_step; with_reducible assumption) | (with_reducible apply below_sg2; (first | exact Nat.le_refl _ | (simp; done) | omega))))))
  case' rest22 => (clear hK K; try simp only [List.getElem_toArray, List.getElem_cons_zero, List.getElem_cons_succ, Act.put, List.setIfInBounds_toArray, List.set_cons_zero, List.set_cons_succ])
  refine wpAnyH_done (by kernel_rfl) ?_ _
  have hEnd := hHeld.2
  repeat (clear hHeld)
  have g8 : Rt w W9.drew w.heap.size B g (cpL z8 1 data) #[.int .i64 21, .int .i64 (ix : Nat), .int .i64 (sub : Nat), .bool tg, .bool la, .bool cr, .bool sz, .int .u32 (size : Nat), .int .u32 (code : Nat), .slice A n c, .int .i64 (sq : Nat), .int .i64 (bl : Nat), .int .i64 (em : Nat), .int .u16 (sum : Nat)] := g9.drew
  have hpl := plB_int la sq 128
  clear hpl
  cases la
  all_goals
    go_wp2_with fail
    go_ret
    exact ⟨ret_int (by first | (simp [plB]; done) | (simp [plB]; exact IntWalk.i64_in _ (by omega))), g8.b, g8.gr⟩
end Go.Proofs.Ytcncbmlacphclaa
