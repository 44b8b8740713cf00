/- Package octet: Get and Put. -/
import Derived.Test.YtehabbnohoomjaaGreatDoorC03
import Derived.Test.YtehabbnohoomjaaGreatDoorC01
import Derived.Deep.RegionHeld3
import Derived.Deep.RegionWith
import Derived.Deep.DrawnRows
import Derived.BigQuiet
import Derived.Deep.QuietTactic
namespace Go.Proofs.YtehabbnohoomjaaGreatDoor
section
set_option linter.unusedVariables false
set_option linter.unusedSimpArgs false
set_option linter.unnecessarySimpa false
section
open Go.RowKit

theorem there_any (n : Int) (w : World) : Calls Tryz.prog 150 #[.int .i64 n] w fun e w' => e = .returned (.bool (decide (1 ≤ n) && decide (n ≤ 8))) ∧ w = w' := by
  by_cases h1 : 1 ≤ n
  · by_cases h2 : n ≤ 8
    · go_enter Tryz.func150, Tryz.ntmps150
      go_wp2
      go_ret
      exact ⟨by simp [h1, h2], rfl⟩
    · go_enter Tryz.func150, Tryz.ntmps150
      go_wp2
      go_ret
      exact ⟨by simp [h1, h2], rfl⟩
  · go_enter Tryz.func150, Tryz.ntmps150
    go_wp2
    go_ret
    exact ⟨by simp; omega, rfl⟩

set_option maxHeartbeats 400000 in
theorem get_ok (A : Option Addr) (cap : Nat) (l : List UInt8) (at_ wd : Int) (w : World)
    (hl : l.length ≤ cap) (hcap : l.length ≤ 4611686018427387904) (ha0 : 0 ≤ at_) (ha : at_ + wd ≤ l.length) (h1 : 1 ≤ wd) (h8 : wd ≤ 8) (hc : Sl w A (l.map bv)) :
    Calls Tryz.prog 122 #[.slice A l.length cap, .int .i64 at_, .int .i64 wd] w fun e w' =>
      e = .returned (.tuple #[.int .u64 (leN ((l.drop at_.toNat).take wd.toNat)), .int .i64 0]) ∧ w = w' := by
  have g1 : (decide (1 ≤ (wd : Int)) && decide ((wd : Int) ≤ 8)) = true := by simp; omega
  go_enter Tryz.func122, Tryz.ntmps122
  go_wp2_with (go_at_call 150; refine (there_any _ _).mono ?_; rintro e w' ⟨rfl, rfl⟩)
  go_loop [8, 9, 32] (fun n _ i => ∃ k : Nat, k ≤ wd ∧ i = .int .i64 k ∧ n = .int .u64 (leN ((l.drop at_.toNat).take k))) (fun _ _ i => wd.toNat - (intOf i).toNat)
  case atStart => exact ⟨0, by omega, rfl, rfl⟩
  case round =>
    obtain ⟨k, hk, rfl, rfl⟩ := hrel
    by_cases hlt : (k : Int) < wd
    · obtain ⟨ad, rfl, hcell⟩ := hc.byte (j := at_.toNat + k) (by omega)
      have e1 : (at_ + k).toNat = at_.toNat + k := by omega
      go_wp2_with fail
      go_round
      case rel =>
        have hd : k < (l.drop at_.toNat).length := by simp; omega
        have hlt' := leN_lt ((l.drop at_.toNat).take k)
        rw [List.length_take, Nat.min_eq_left (Nat.le_of_lt hd)] at hlt'
        refine ⟨k + 1, by omega, by go_num, ?_⟩
        rw [or_step _ _ _ hlt' (UInt8.toNat_lt _) (by omega), leN_take_succ _ _ hd]
        simp
      case measure => simp [intOf]; omega
    · go_wp2
      go_ret2
      have : k = wd.toNat := by omega
      subst this
      exact ⟨rfl, rfl⟩

theorem there_yes (n : Int) (w : World) (h1 : 1 ≤ n) (h2 : n ≤ 8) : Calls Tryz.prog 150 #[.int .i64 n] w fun e w' => e = .returned (.bool true) ∧ w = w' :=
  (there_any n w).mono fun _ _ ⟨he, hw⟩ => ⟨by rw [he]; simp [h1, h2], hw⟩
theorem two_pow (wd : Int) : (2 : Int) ^ (8 * wd).toNat = ((256 ^ wd.toNat : Nat) : Int) := by
  have : (8 * wd).toNat = 8 * wd.toNat := by omega
  rw [this, ← pow256_two]
  push_cast
  rfl

/-- the byte that Put lays at place k: the walk's spelling -/
theorem put_byte (x k : Nat) : Value.int IntKind.u8 ((x : Int) / 2 ^ (8 * k) % 256) = bv (UInt8.ofNat (x / 256 ^ k)) := by
  have : ((x : Int) / 2 ^ (8 * k)) = ((x / 256 ^ k : Nat) : Int) := by
    rw [← pow256_two]; push_cast; rfl
  rw [this]
  simp only [bv, UInt8.toNat_ofNat']
  congr 1

set_option maxRecDepth 20000 in
set_option maxHeartbeats 400000 in
theorem put_ok (A : Option Addr) (c : Nat) (l : List UInt8) (wd : Int) (x : Nat) (w : World) (h1 : 1 ≤ wd) (h8 : wd ≤ 8) (hx : x < 256 ^ wd.toNat) (hl : l.length ≤ 35184372088832)
    (hs : Sl w A (l.map bv)) :
    Calls Tryz.prog 159 #[.slice A l.length c, .int .i64 wd, .int .u64 x] w fun e w' => ∃ A' n' c', e = .returned (.tuple #[.slice A' n' c', .int .i64 0]) ∧
      OwnB w' w.heap.size A' n' c' (l ++ leB wd.toNat x) ∧ Below w.heap.size w w' := by
  have ht : wd < 8 → ((x : Int) / 2 ^ (8 * wd).toNat != 0) = false := by
    intro _
    rw [two_pow]
    have : x / 256 ^ wd.toNat = 0 := Nat.div_eq_of_lt hx
    simp only [bne_eq_false_iff_eq]
    exact_mod_cast this
  clear hx
  go_enter Tryz.func159, Tryz.ntmps159
  go_wp2_with (first
    | (go_at_call 150; refine (there_yes _ _ h1 (by omega)).mono ?_; rintro e w' ⟨rfl, rfl⟩)
    | (at_make; refine mk_b _ rfl _ _ rfl _ _ _ _ l.length (l.length + wd.toNat) rfl rfl rfl (by omega) (by omega) (by omega) w.heap.size rfl ?_; intro w1 hown1 _ hb1)
    | (with_reducible refine cpy_b _ rfl (.tmp 32) (.tmp 33) rfl w.heap.size _ _ _ rfl hown1 _ _ _ l rfl rfl (hs.below hb1) hb1.size (l ++ leB 0 x) (by simp [leB]) ?_; intro w2 hO2 _ hb2))
  all_goals
    have hb := hb1.trans hb2
    clear hown1 hb1 hb2 ht
    go_loopw [8, 9, 36] (fun v _ i wr => ∃ k n A c, k ≤ wd.toNat ∧ i = .int .i64 (k : Nat) ∧ v = .slice A n c ∧ OwnB wr w.heap.size A n c (l ++ leB k x) ∧ Below w.heap.size w wr) (fun _ _ i _ => wd.toNat - (intOf i).toNat)
    case atStart => exact ⟨0, _, _, _, by omega, rfl, rfl, hO2, hb⟩
    case round =>
      obtain ⟨k, n, A, c, hk, rfl, rfl, hO, hbr⟩ := hrel
      clear hO2 hb
      have hn' : n ≤ 35184372088840 := by rw [hO.hn]; simp [leB_length]; omega
      by_cases hlt : (k : Int) < wd
      · go_wp2_with (first
          | (at_builtin; refine app_b _ rfl (.tmp 39) (.tmp 46) rfl w.heap.size _ _ _ _ rfl (hO.alloc _) _ _ _ [UInt8.ofNat (x / 256 ^ k)] rfl rfl (by rw [put_byte]; exact Sl.one _ _ _) (by omega) (by have := hbr.size; simp; omega) (n + 1) rfl ?_; intro A3 c3 w3 hown3 _ _ hb3))
        go_roundw
        case rel => exact ⟨k + 1, _, _, _, by omega, by go_num, rfl, by rw [leB_snoc, ← List.append_assoc]; exact hown3, (hbr.alloc hbr.size _).trans hb3⟩
        case measure => simp [intOf]; omega
      · go_wp2
        go_ret2
        have hk2 : k = wd.toNat := by omega
        subst hk2
        exact ⟨_, _, _, rfl, hO, hbr⟩
theorem put_ok' (A : Option Addr) (n c : Nat) (l : List UInt8) (wd : Int) (x : Nat) (w : World) (hn : n = l.length) (h1 : 1 ≤ wd) (h8 : wd ≤ 8) (hx : x < 256 ^ wd.toNat) (hl : n ≤ 35184372088832)
    (hs : Sl w A (l.map bv)) :
    Calls Tryz.prog 159 #[.slice A n c, .int .i64 wd, .int .u64 x] w fun e w' => ∃ A' n' c', e = .returned (.tuple #[.slice A' n' c', .int .i64 0]) ∧
      OwnB w' w.heap.size A' n' c' (l ++ leB wd.toNat x) ∧ Below w.heap.size w w' := by
  subst hn
  exact put_ok A c l wd x w h1 h8 hx hl hs
theorem get_ok' (A : Option Addr) (n cap : Nat) (l : List UInt8) (at_ wd : Int) (w : World) (hn : n = l.length)
    (hl : n ≤ cap) (hcap : n ≤ 4611686018427387904) (ha0 : 0 ≤ at_) (ha : at_ + wd ≤ n) (h1 : 1 ≤ wd) (h8 : wd ≤ 8) (hc : Sl w A (l.map bv)) :
    Calls Tryz.prog 122 #[.slice A n cap, .int .i64 at_, .int .i64 wd] w fun e w' =>
      e = .returned (.tuple #[.int .u64 (leN ((l.drop at_.toNat).take wd.toNat)), .int .i64 0]) ∧ w = w' := by
  subst hn
  exact get_ok A cap l at_ wd w hl hcap ha0 ha h1 h8 hc
end
section
open Go.RowKit

theorem join_any (A1 A2 : Option Addr) (n1 n2 c1 c2 : Nat) (l1 l2 : List UInt8) (w : World) (hn1 : n1 = l1.length) (hn2 : n2 = l2.length) (hl : n1 ≤ 35184372088832) (hl2 : n2 ≤ 35184372088832)
    (h1 : Sl w A1 (l1.map bv)) (h2 : Sl w A2 (l2.map bv)) :
    Calls Tryz.prog 64 #[.slice A1 n1 c1, .slice A2 n2 c2] w fun e w' => ∃ A' n' c', e = .returned (.slice A' n' c') ∧
      OwnB w' w.heap.size A' n' c' (l1 ++ l2) ∧ Below w.heap.size w w' := by
  have H1 := hide hn1
  have H2 := hide hn2
  clear hn1 hn2
  go_enter Tryz.func64, Tryz.ntmps64
  go_wp2_with (first
    | (at_builtin; refine app_b _ rfl (.tmp 6) (.tmp 7) rfl w.heap.size _ _ _ _ rfl (OwnB.nil _ _) _ _ _ l1 rfl H1.out h1 (by omega) (Nat.le_refl _) n1 (by omega) ?_; intro A3 c3 w3 hown3 _ _ hb3)
    | (at_builtin; refine app_b _ rfl (.tmp 9) (.tmp 10) rfl w.heap.size _ _ _ _ rfl hown3 _ _ _ l2 rfl H2.out (h2.below hb3) (by omega) hb3.size (n1 + n2) rfl ?_; intro A4 c4 w4 hown4 _ _ hb4))
  go_ret
  exact ⟨_, _, _, rfl, by simpa using hown4, hb3.trans hb4⟩

theorem get_step (d : List UInt8) (k b : Nat) (h1 : 1 ≤ k) (hk : k ≤ d.length) (h8 : d.length ≤ 8) (hb : b = (d[k - 1]'(by omega)).toNat) :
    IntKind.u64.wrap (IntKind.u64.wrap (256 * ↑(leN (List.drop k d))) + IntKind.u64.wrap (b : Int)) = (leN (d.drop (k - 1)) : Int) := by
  have e : d.drop (k - 1) = d[k - 1]'(by omega) :: d.drop k := by
    rw [List.drop_eq_getElem_cons (by omega)]
    congr 2
    omega
  have hu : U64 (leN (d.drop (k - 1))) := leN_U64 (by simp; omega)
  rw [e] at hu ⊢
  simp only [leN] at hu ⊢
  rw [← hb] at hu ⊢
  unfold U64 at hu
  have e1 : IntKind.u64.wrap (256 * ↑(leN (List.drop k d))) = 256 * ↑(leN (List.drop k d)) := by rw [IntKind.wrap_u64]; omega
  have e2 : IntKind.u64.wrap (b : Int) = b := by rw [IntKind.wrap_u64]; omega
  rw [e1, e2, IntKind.wrap_u64]
  omega
set_option maxHeartbeats 400000 in
theorem rget_ok (A : Option Addr) (n cap : Nat) (l : List UInt8) (at_ wd : Int) (w : World) (hn : n = l.length)
    (hl : n ≤ cap) (hcap : n ≤ 4611686018427387904) (ha0 : 0 ≤ at_) (ha : at_ + wd ≤ n) (h1 : 1 ≤ wd) (h8 : wd ≤ 8) (hc : Sl w A (l.map bv)) :
    Calls Tryz.prog 143 #[.slice A n cap, .int .i64 at_, .int .i64 wd] w fun e w' =>
      e = .returned (.tuple #[.int .u64 (leN ((l.drop at_.toNat).take wd.toNat)), .int .i64 0]) ∧ w = w' := by
  have HN := hide hn
  clear hn
  have hlen : ((l.drop at_.toNat).take wd.toNat).length = wd.toNat := by have := HN.out; rw [List.length_take, List.length_drop]; omega
  obtain ⟨d, hd⟩ : ∃ d, d = (l.drop at_.toNat).take wd.toNat := ⟨_, rfl⟩
  rw [← hd] at hlen ⊢
  have HD := hide hd
  have HL := hide hlen
  clear hd hlen
  go_enter Tryz.func143, Tryz.ntmps143
  go_wp2_with fail
  go_loop [8, 9] (fun n i => ∃ k : Nat, k ≤ wd ∧ i = .int .i64 ((k : Int) - 1) ∧ n = .int .u64 (leN (d.drop k))) (fun _ i => (intOf i + 1).toNat)
  case atStart => exact ⟨wd.toNat, by omega, by go_num, by rw [List.drop_eq_nil_of_le (by rw [HL.out]; omega)]; rfl⟩
  case round =>
    obtain ⟨k, hk, rfl, rfl⟩ := hrel
    by_cases hlt : 1 ≤ k
    · obtain ⟨ad, rfl, hcell⟩ := hc.byte (j := at_.toNat + (k - 1)) (by have := HN.out; omega)
      have e1 : (at_ + (↑k - 1)).toNat = at_.toNat + (k - 1) := by omega
      go_wp2_with fail
      go_round
      case rel =>
        refine ⟨k - 1, by omega, by go_num, ?_⟩
        rw [get_step d k _ hlt (by rw [HL.out]; omega) (by rw [HL.out]; omega)]
        have hd := HD.out
        subst hd
        rw [List.getElem_take, List.getElem_drop]
      case measure => simp [intOf]; omega
    · go_wp2
      go_ret2
      have : k = 0 := by omega
      subst this
      exact ⟨by rw [HD.out]; rfl, rfl⟩
end
section
open Go.RowKit

theorem count_any (n m : Int) (w : World) (hm : 1 ≤ m) (hm2 : m ≤ 4611686018427387904) :
    Calls Tryz.prog 22 #[.int .i64 n, .int .i64 m] w fun e w' => e = .returned (.int .i64 (n % m)) ∧ w = w' := by
  have hp : 0 ≤ n % m := Int.emod_nonneg _ (by omega)
  have hq : n % m < m := Int.emod_lt_of_pos _ (by omega)
  have he : n.tmod m = n % m ∨ n.tmod m = n % m - m := by
    rw [Int.tmod_eq_emod]
    split
    · left; simp
    · right; omega
  have h1 : n.tmod m < 0 → n.tmod m + m = n % m := by omega
  have h2 : 0 ≤ n.tmod m → n.tmod m = n % m := by omega
  have h3 : -m ≤ n.tmod m := by omega
  have HE := And.intro (hide h1) (hide h2)
  clear he h1 h2 hp hq
  go_enter Tryz.func22, Tryz.ntmps22
  go_wp2
  · go_ret
    exact ⟨ret_int (HE.1.out ‹_›), rfl⟩
  · go_ret
    exact ⟨ret_int (HE.2.out ‹_›), rfl⟩

end
end
end Go.Proofs.YtehabbnohoomjaaGreatDoor
namespace Go.Proofs.YtehabbnohoomjaaGreatDoor
section
set_option linter.unusedVariables false
set_option linter.unusedSimpArgs false
set_option linter.unnecessarySimpa false

def poly : Nat := 3988292384
def crcBit (r b : Nat) : Nat := if r % 2 = b then r / 2 else (r / 2) ^^^ poly
def crcBits (r c : Nat) : Nat → Nat
  | 0 => r
  | k + 1 => crcBit (crcBits r c k) (c / 2 ^ k % 2)
def crcL (r : Nat) (l : List UInt8) : Nat := l.foldl (fun r c => crcBits r c.toNat 8) r
/-- r fits in a uint32 (a name, so that the numeral does not stand in the walk's context) -/
def U32 (r : Nat) : Prop := r < 4294967296
def crcOn (s : Nat) (l : List UInt8) : Nat := 4294967295 - crcL (4294967295 - s) l
theorem poly_lt : U32 poly := by unfold U32 poly; omega
theorem U32.xor {a b : Nat} (ha : U32 a) (hb : U32 b) : U32 (a ^^^ b) := Nat.xor_lt_two_pow (n := 32) ha hb
theorem U32.half {a : Nat} (ha : U32 a) : U32 (a / 2) := by unfold U32 at *; omega
theorem crcBit_lt {r : Nat} (h : U32 r) (b : Nat) : U32 (crcBit r b) := by
  unfold crcBit
  split
  · exact h.half
  · exact h.half.xor poly_lt
theorem crcBits_lt {r : Nat} (h : U32 r) (c k : Nat) : U32 (crcBits r c k) := by
  induction k with
  | zero => exact h
  | succ k ih => exact crcBit_lt ih _
theorem crcL_lt {r : Nat} (h : U32 r) (l : List UInt8) : U32 (crcL r l) := by
  induction l generalizing r with
  | nil => exact h
  | cons c l ih => exact ih (crcBits_lt h _ _)
theorem crcL_snoc (r : Nat) (l : List UInt8) (c : UInt8) : crcL r (l ++ [c]) = crcBits (crcL r l) c.toNat 8 := by simp [crcL]
theorem crcL_take_succ (r : Nat) (l : List UInt8) (k : Nat) (h : k < l.length) : crcL r (l.take (k + 1)) = crcBits (crcL r (l.take k)) (l[k]).toNat 8 := by
  rw [List.take_succ_eq_append_getElem h, crcL_snoc]
theorem crcOn_lt (s : Nat) (l : List UInt8) : U32 (crcOn s l) := by unfold crcOn U32; omega
theorem U32.comp (s : Nat) : U32 (4294967295 - s) := by unfold U32; omega
end
end Go.Proofs.YtehabbnohoomjaaGreatDoor
namespace Go.Proofs.YtehabbnohoomjaaGreatDoor
section
set_option linter.unusedVariables false
set_option linter.unusedSimpArgs false
set_option linter.unnecessarySimpa false
open Go.RowKit
set_option maxRecDepth 20000
set_option maxHeartbeats 1000000

theorem take_bits (r b : Nat) (hb : b < 2) (hr : U32 r) :
    bits BinOp.xor IntKind.u32 (↑r / 2) (bits BinOp.and IntKind.u32 3988292384 (-bits BinOp.xor IntKind.u32 (bits BinOp.and IntKind.u32 (↑r) 1) ↑b % 4294967296)) = ((crcBit r b : Nat) : Int) := by
  have hr' : r < 4294967296 := hr
  have e1 : bits BinOp.and IntKind.u32 (↑r) 1 = ((r % 2 : Nat) : Int) := by
    rw [show (1 : Int) = ((1 : Nat) : Int) from rfl, u32_and_nat r 1 hr' (by decide), Nat.and_one_is_mod]
  have e2 : ((r : Int) / 2) = ((r / 2 : Nat) : Int) := by push_cast; rfl
  rw [e1, u32_xor_nat _ _ (by omega) (by omega), e2]
  unfold crcBit
  split
  · rename_i h
    rw [h, Nat.xor_self]
    have : bits BinOp.and IntKind.u32 3988292384 (-((0 : Nat) : Int) % 4294967296) = 0 := by decide
    rw [this, show (0 : Int) = ((0 : Nat) : Int) from rfl, u32_xor_nat _ _ (by omega) (by decide), Nat.xor_zero]
  · rename_i h
    have : r % 2 ^^^ b = 1 := by
      have h2 : r % 2 < 2 := Nat.mod_lt _ (by decide)
      generalize r % 2 = q at *
      have : (q = 0 ∨ q = 1) ∧ (b = 0 ∨ b = 1) := by omega
      rcases this with ⟨rfl | rfl, rfl | rfl⟩ <;> first | rfl | exact absurd rfl h
    rw [this]
    have : bits BinOp.and IntKind.u32 3988292384 (-((1 : Nat) : Int) % 4294967296) = ((poly : Nat) : Int) := by decide
    rw [this, u32_xor_nat _ _ (by omega) (by decide)]

theorem take_any (b r g N : Nat) (w0 w : World) (hb : b < 2) (hr : U32 r) (hB : Blk w g 45 #[.int .u32 (r : Nat)]) (hbel : Below N w0 w) (hN : N ≤ g) :
    Calls Tryz.prog 223 #[.int .u32 (b : Nat), .pointer (some ⟨g, 0, none⟩)] w fun e w' => e = .returned (.tuple #[]) ∧ Blk w' g 45 #[.int .u32 (crcBit r b : Nat)] ∧ Below N w0 w' := by
  have c0 := hB.cell 0 rfl
  have f0 := hB.frozen 0
  go_enter Tryz.func223, Tryz.ntmps223
  go_wp2_with fail
  go_end0
  exact ⟨rfl, by rw [take_bits r b hb hr]; exact (hB.set_ 0 _).set_ 0 _, below_set (below_set hbel hN _) hN _⟩

theorem xor_max (s : Nat) (h : U32 s) : bits BinOp.xor IntKind.u32 IntKind.u32.max (s : Int) = ((4294967295 - s : Nat) : Int) := by
  have h' : s < 4294967296 := h
  rw [show IntKind.u32.max = ((4294967295 : Nat) : Int) from rfl, u32_xor_nat _ _ (by decide) h']
  congr 1
  have e : (BitVec.ofNat 32 4294967295 ^^^ BitVec.ofNat 32 s).toNat = (~~~ BitVec.ofNat 32 s).toNat := by
    rw [show BitVec.ofNat 32 4294967295 = BitVec.allOnes 32 from rfl, BitVec.allOnes_xor]
  rw [BitVec.toNat_xor, BitVec.toNat_not, BitVec.toNat_ofNat, BitVec.toNat_ofNat, Nat.mod_eq_of_lt (by decide), Nat.mod_eq_of_lt h'] at e
  rw [e]
theorem bit_of (c j : Nat) (hc : c < 256) : bits BinOp.and IntKind.u32 ((c : Int) / 2 ^ j) 1 = ((c / 2 ^ j % 2 : Nat) : Int) := by
  have e : ((c : Int) / 2 ^ j) = ((c / 2 ^ j : Nat) : Int) := by push_cast; rfl
  have h2 : c / 2 ^ j ≤ c := Nat.div_le_self _ _
  rw [e, show (1 : Int) = ((1 : Nat) : Int) from rfl, u32_and_nat _ 1 (by omega) (by decide), Nat.and_one_is_mod]
theorem sum_on (A : Option Addr) (n c s : Nat) (l : List UInt8) (w : World) (hn : n = l.length) (hl : n ≤ 35184372088832) (hu : U32 s) (hs : Sl w A (l.map bv)) :
    Calls Tryz.prog 219 #[.int .u32 (s : Nat), .slice A n c] w fun e w' => e = .returned (.int .u32 (crcOn s l : Nat)) ∧ Below w.heap.size w w' := by
  have HN := hide hn
  clear hn
  go_enter Tryz.func219, Tryz.ntmps219
  go_wp2_with fail
  go_loopw [8, 9, 15] (fun _ _ i wr => ∃ k, k ≤ n ∧ i = .int .i64 (k : Nat) ∧ Blk wr w.heap.size 45 #[.int .u32 (crcL (4294967295 - s) (l.take k) : Nat)] ∧ Below w.heap.size w wr) (fun _ _ i _ => n - (intOf i).toNat)
  case atStart =>
    rw [xor_max s hu]
    exact ⟨0, by omega, rfl, blk_one _ _ _, below_alloc (Below.refl _ _) _⟩
  case round =>
    obtain ⟨k, hk, rfl, hB, hbr⟩ := hrel
    by_cases hlt : k < n
    · obtain ⟨ad, rfl, hcell⟩ := (hs.below hbr).byte (j := k) (by have := HN.out; omega)
      obtain ⟨b, hb⟩ : ∃ b, b = (l[k]'(by have := HN.out; omega)).toNat := ⟨_, rfl⟩
      have lb : b < 256 := by rw [hb]; exact UInt8.toNat_lt _
      rw [← hb] at hcell
      have HK := hide (show crcL (4294967295 - s) (l.take (k + 1)) = crcBits (crcL (4294967295 - s) (l.take k)) b 8 by rw [crcL_take_succ _ _ _ (by have := HN.out; omega), hb])
      have hrl := crcL_lt (U32.comp s) (l.take k)
      obtain ⟨r, hr⟩ : ∃ r, r = crcL (4294967295 - s) (l.take k) := ⟨_, rfl⟩
      rw [← hr] at HK hB hrl
      clear hb hr
      go_wp2_with fail
      go_loopw [9, 19] (fun _ i wr => ∃ j, j ≤ 8 ∧ i = .int .i64 (j : Nat) ∧ Blk wr w.heap.size 45 #[.int .u32 (crcBits r b j : Nat)] ∧ Below w.heap.size w wr) (fun _ i _ => 8 - (intOf i).toNat)
      case atStart => exact ⟨0, by omega, rfl, hB, hbr⟩
      case round =>
        clear hbr hB hcell
        obtain ⟨j, hj, rfl, hB, hbr⟩ := hrel
        by_cases hj8 : j < 8
        · go_wp2_with fail
          rw [bit_of b j lb]
          refine (take_any (b / 2 ^ j % 2) (crcBits r b j) w.heap.size w.heap.size w _ (by omega) (crcBits_lt hrl _ _) hB hbr (Nat.le_refl _)).mono ?_
          rintro e w1 ⟨rfl, hB1, hb1⟩
          go_wp2_with fail
          go_roundw
          case rel => exact ⟨j + 1, by omega, by go_num, hB1, hb1⟩
          case measure => simp [intOf]; omega
        · obtain rfl : j = 8 := by omega
          go_wp2_with fail
          go_roundw
          case rel => exact ⟨k + 1, by omega, by go_num, by rw [HK.out]; exact hB, hbr⟩
          case measure => simp [intOf]; omega
    · obtain rfl : k = n := by omega
      have c0 := hB.cell 0 rfl
      have HT := hide (show l.take k = l from List.take_of_length_le (by have := HN.out; omega))
      have hcu := xor_max _ (crcL_lt (U32.comp s) (l.take k))
      go_wp2_with fail
      go_ret
      exact ⟨by rw [HT.out]; rfl, hbr⟩

theorem sum_sum (A : Option Addr) (n c : Nat) (l : List UInt8) (w : World) (hn : n = l.length) (hl : n ≤ 35184372088832) (hs : Sl w A (l.map bv)) :
    Calls Tryz.prog 208 #[.slice A n c] w fun e w' => e = .returned (.int .u32 (crcOn 0 l : Nat)) ∧ Below w.heap.size w w' := by
  have h := sum_on A n c 0 l w hn hl (by unfold U32; omega) hs
  rw [show (((0 : Nat)) : Int) = 0 from rfl] at h
  have HH := hide h
  clear h hn
  go_enter Tryz.func208, Tryz.ntmps208
  go_wp2_with fail
  refine HH.out.mono ?_
  rintro e w1 ⟨rfl, hb1⟩
  go_wp2_with fail
  go_ret
  exact ⟨rfl, hb1⟩
end
end Go.Proofs.YtehabbnohoomjaaGreatDoor
namespace Go.Proofs.YtehabbnohoomjaaGreatDoor
section
set_option linter.unusedVariables false
set_option linter.unusedSimpArgs false
set_option linter.unnecessarySimpa false
open Go.RowKit
set_option maxRecDepth 20000
set_option maxHeartbeats 1000000
attribute [local go_sem ↓] Go.wp_at_zero Go.wp_at_succ

theorem i64_xor_nat (a b : Nat) (ha : a < 4294967296) (hb : b < 4294967296) : bits .xor .i64 (a : Int) (b : Int) = ((a ^^^ b : Nat) : Int) := by
  have hx : a ^^^ b < 2 ^ 32 := Nat.xor_lt_two_pow (by omega) (by omega)
  show IntKind.i64.wrap ((BitVec.ofInt 64 (a : Int) ^^^ BitVec.ofInt 64 (b : Int)).toNat : Int) = _
  rw [BitVec.toNat_xor, ofInt_u64 a (by omega), ofInt_u64 b (by omega)]
  exact IntWalk.i64_in _ (by omega)
theorem xor_poly (a : Nat) (ha : U32 a) : bits .xor .i64 (a : Int) 3988292384 = ((a ^^^ poly : Nat) : Int) := by
  rw [show (3988292384 : Int) = ((poly : Nat) : Int) from rfl]
  exact i64_xor_nat a poly ha poly_lt
theorem comp_int (s : Nat) (h : U32 s) : (4294967295 : Int) - s = ((4294967295 - s : Nat) : Int) := by unfold U32 at h; omega
theorem crcBit_eq (r b : Nat) (h : r % 2 = b) : crcBit r b = r / 2 := by rw [crcBit, if_pos h]
theorem crcBit_ne (r b : Nat) (h : ¬ r % 2 = b) : crcBit r b = (r / 2) ^^^ poly := by rw [crcBit, if_neg h]

theorem rsum_on (A : Option Addr) (n c s : Nat) (l : List UInt8) (w : World) (hn : n = l.length) (hl : n ≤ 35184372088832) (hu : U32 s) (hs : Sl w A (l.map bv)) :
    Calls Tryz.prog 222 #[.int .u32 (s : Nat), .slice A n c] w fun e w' => e = .returned (.int .u32 (crcOn s l : Nat)) ∧ w = w' := by
  have HN := hide hn
  have HC := hide (comp_int s hu)
  have hu' : s ≤ 4294967295 := by unfold U32 at hu; omega
  clear hn
  go_enter Tryz.func222, Tryz.ntmps222
  go_wp2_with fail
  go_loop [5, 6, 7, 8, 9] (fun r i _ _ _ => ∃ k : Nat, k ≤ n ∧ i = .int .i64 (k : Nat) ∧ r = .int .i64 (crcL (4294967295 - s) (l.take k) : Nat)) (fun _ i _ _ _ => n - (intOf i).toNat)
  case atStart => exact ⟨0, by omega, rfl, by rw [HC.out]; rfl⟩
  case round =>
    obtain ⟨k, hk, rfl, rfl⟩ := hrel
    have hrl := crcL_lt (U32.comp s) (l.take k)
    obtain ⟨r, hr⟩ : ∃ r, r = crcL (4294967295 - s) (l.take k) := ⟨_, rfl⟩
    rw [← hr] at hrl ⊢
    have HR := hide hr
    clear hr
    by_cases hlt : k < n
    · obtain ⟨ad, rfl, hcell⟩ := hs.byte (j := k) (by have := HN.out; omega)
      obtain ⟨b, hb⟩ : ∃ b, b = (l[k]'(by have := HN.out; omega)).toNat := ⟨_, rfl⟩
      have lb : b < 256 := by rw [hb]; exact UInt8.toNat_lt _
      rw [← hb] at hcell
      have HK := hide (show crcL (4294967295 - s) (l.take (k + 1)) = crcBits r b 8 by rw [crcL_take_succ _ _ _ (by have := HN.out; omega), hb, HR.out])
      clear hb
      go_wp2_with fail
      go_loop [5, 7, 8, 9] (fun x y i _ => ∃ j : Nat, j ≤ 8 ∧ i = .int .i64 (j : Nat) ∧ x = .int .i64 (crcBits r b j : Nat) ∧ y = .int .i64 (b / 2 ^ j : Nat)) (fun _ _ i _ => 8 - (intOf i).toNat)
      case atStart => exact ⟨0, by omega, rfl, rfl, by simp⟩
      case round =>
        clear hcell
        obtain ⟨j, hj, rfl, rfl, rfl⟩ := hrel
        have hxl := crcBits_lt hrl b j
        have hyl : b / 2 ^ j ≤ b := Nat.div_le_self _ _
        have HS := hide (show crcBits r b (j + 1) = crcBit (crcBits r b j) (b / 2 ^ j % 2) from rfl)
        have HY := hide (show b / 2 ^ (j + 1) = b / 2 ^ j / 2 by rw [Nat.pow_succ, Nat.div_div_eq_div_mul])
        obtain ⟨x, hx⟩ : ∃ x, x = crcBits r b j := ⟨_, rfl⟩
        obtain ⟨y, hy⟩ : ∃ y, y = b / 2 ^ j := ⟨_, rfl⟩
        rw [← hx] at hxl HS ⊢
        rw [← hy] at hyl HS HY ⊢
        have HX := hide hx
        clear hx hy
        have hxp := xor_poly _ hxl.half
        have hxl' : x ≤ 4294967295 := by unfold U32 at hxl; omega
        by_cases hj8 : j < 8
        · by_cases hp : x % 2 = y % 2
          · have hp' : ((x : Int) % 2 != (y : Int) % 2) = false := by simp; omega
            have HP := hide hp
            clear hp
            go_wp2_with fail
            go_round
            case rel => exact ⟨j + 1, by omega, by go_num, by rw [HS.out, crcBit_eq _ _ HP.out]; go_num, by rw [HY.out]; go_num⟩
            case measure => simp [intOf]; omega
          · have hp' : ((x : Int) % 2 != (y : Int) % 2) = true := by simp; omega
            have HP := hide hp
            clear hp
            go_wp2_with fail
            go_round
            case rel => exact ⟨j + 1, by omega, by go_num, by rw [HS.out, crcBit_ne _ _ HP.out, ← hxp]; rfl, by rw [HY.out]; go_num⟩
            case measure => simp [intOf]; omega
        · obtain rfl : j = 8 := by omega
          go_wp2_with fail
          go_round
          case rel => exact ⟨k + 1, by omega, by go_num, by rw [HK.out, HX.out]⟩
          case measure => simp [intOf]; omega
    · obtain rfl : k = n := by omega
      have HT := hide (show l.take k = l from List.take_of_length_le (by have := HN.out; omega))
      have hrl' : r ≤ 4294967295 := by unfold U32 at hrl; omega
      go_wp2_with fail
      go_ret
      exact ⟨ret_int (by rw [crcOn, ← HT.out, ← HR.out]; omega), rfl⟩

def sealL (l : List UInt8) : List UInt8 := l ++ leB 4 (crcOn 0 l)
theorem sealL_length (l : List UInt8) : (sealL l).length = l.length + 4 := by simp [sealL, leB_length]
theorem crc_p4 (l : List UInt8) : crcOn 0 l < 256 ^ (Int.toNat 4) := by have := crcOn_lt 0 l; unfold U32 at this; exact this

theorem sum_seal (A : Option Addr) (n c : Nat) (l : List UInt8) (w : World) (hn : n = l.length) (hl : n ≤ 35184372088832) (hs : Sl w A (l.map bv)) :
    Calls Tryz.prog 188 #[.slice A n c] w fun e w' => ∃ A' n' c', e = .returned (.slice A' n' c') ∧ OwnB w' w.heap.size A' n' c' (sealL l) ∧ Below w.heap.size w w' := by
  obtain ⟨s, hse⟩ : ∃ s, s = crcOn 0 l := ⟨_, rfl⟩
  have hs4 : s ≤ 4294967295 := by have := crcOn_lt 0 l; unfold U32 at this; omega
  have HS := hide (sum_sum A n c l w hn hl hs)
  have HP := hide (show ∀ W, Sl W A (l.map bv) → _ from fun W h => put_ok' A n c l 4 s W hn (by omega) (by omega) (by rw [hse]; exact crc_p4 l) hl h)
  have HE := hide (show sealL l = l ++ leB (Int.toNat 4) s by rw [hse]; rfl)
  rw [← hse] at HS
  clear hn hse
  go_enter Tryz.func188, Tryz.ntmps188
  go_wp2_with fail
  refine HS.out.mono ?_
  rintro e w1 ⟨rfl, hb1⟩
  go_wp2_with fail
  refine (HP.out _ (hs.below hb1)).mono ?_
  rintro e w2 ⟨A2, n2, c2, rfl, hO2, hb2⟩
  go_wp2_with fail
  go_ret
  exact ⟨_, _, _, rfl, by rw [HE.out]; exact hO2.mono hb1.size, below_step hb2 hb1⟩
/-- what Open says of bytes that were sealed -/
def openE (l : List UInt8) : Int := if l.length < 4 then 2 else if leN (l.drop (l.length - 4)) = crcOn 0 (l.take (l.length - 4)) then 0 else 5
theorem openE_yes (l : List UInt8) (n : Nat) (hn : n = l.length) (h : 4 ≤ n) (he : leN ((l.drop (n - 4)).take 4) = crcOn 0 (l.take (n - 4))) : openE l = 0 := by
  subst hn
  rw [List.take_of_length_le (by simp; omega)] at he
  rw [openE, if_neg (by omega), if_pos he]
theorem openE_no (l : List UInt8) (n : Nat) (hn : n = l.length) (h : 4 ≤ n) (he : ¬ leN ((l.drop (n - 4)).take 4) = crcOn 0 (l.take (n - 4))) : openE l = 5 := by
  subst hn
  rw [List.take_of_length_le (by simp; omega)] at he
  rw [openE, if_neg (by omega), if_neg he]
theorem seal_eq (l : List UInt8) (n : Nat) (hn : n = l.length) (h : 4 ≤ n) : sealL (l.take (n - 4)) = l ↔ leN ((l.drop (n - 4)).take 4) = crcOn 0 (l.take (n - 4)) := by
  subst hn
  rw [List.take_of_length_le (l := l.drop _) (by simp; omega)]
  have hd : (l.drop (l.length - 4)).length = 4 := by simp; omega
  constructor
  · intro he
    have : l.take (l.length - 4) ++ leB 4 (crcOn 0 (l.take (l.length - 4))) = l.take (l.length - 4) ++ l.drop (l.length - 4) := by
      rw [List.take_append_drop]; exact he
    have h2 := List.append_cancel_left this
    rw [← h2, leN_leB]
    exact Nat.mod_eq_of_lt (crcOn_lt _ _)
  · intro he
    have h3 := leB_leN (l.drop (l.length - 4))
    rw [hd, he] at h3
    rw [sealL, h3, List.take_append_drop]

def OpenD (l d : List UInt8) : Prop := openE l = 0 → d = l.take (l.length - 4)
theorem openD_no (l d : List UInt8) (h : openE l ≠ 0) : OpenD l d := fun h' => absurd h' h
theorem openD_yes (l : List UInt8) (n : Nat) (h : n = l.length) : OpenD l (l.take (n - 4)) := fun _ => by rw [h]
theorem sum_open (A : Option Addr) (n c : Nat) (l : List UInt8) (w : World) (hn : n = l.length) (hc : n ≤ c) (hl : n ≤ 35184372088832) (hs : Sl w A (l.map bv)) :
    Calls Tryz.prog 179 #[.slice A n c] w fun e w' => ∃ A' n' c' d, e = .returned (.tuple #[.slice A' n' c', .int .i64 (openE l)]) ∧ OwnB w' w.heap.size A' n' c' d ∧ OpenD l d ∧ Below w.heap.size w w' := by
  by_cases h4 : n < 4
  · have HE := hide (show openE l = 2 by rw [openE, if_pos (by omega)])
    clear hn
    go_enter Tryz.func179, Tryz.ntmps179
    go_wp2_with fail
    go_ret2
    exact ⟨none, 0, 0, [], by rw [HE.out]; rfl, OwnB.nil _ _, openD_no _ _ (by rw [HE.out]; decide), Below.refl _ _⟩
  · have hi : (4 : Int) ≤ n := by omega
    have e1 : ((n : Int) - 4).toNat = n - 4 := by omega
    obtain ⟨x, hx⟩ : ∃ x, x = leN ((l.drop (n - 4)).take 4) := ⟨_, rfl⟩
    obtain ⟨s, hse⟩ : ∃ s, s = crcOn 0 (l.take (n - 4)) := ⟨_, rfl⟩
    have lx : x ≤ 4294967295 := by
      have := leN_lt ((l.drop (n - 4)).take 4)
      have h2 : ((l.drop (n - 4)).take 4).length = 4 := by simp; omega
      rw [h2] at this
      have h3 : (256 : Nat) ^ 4 = 4294967296 := by decide
      omega
    have HG := hide (show _ from get_ok' A n c l (n - 4) 4 w hn hc (by omega) (by omega) (by omega) (by omega) (by omega) hs)
    rw [e1] at HG
    rw [show Int.toNat 4 = 4 from rfl, ← hx] at HG
    have HS := hide (show _ from sum_sum A (n - 4) c (l.take (n - 4)) w (by simp; omega) (by omega) (by rw [List.map_take]; exact hs.take _))
    rw [← hse] at HS
    have ls : s ≤ 4294967295 := by have := crcOn_lt 0 (l.take (n - 4)); unfold U32 at this; omega
    by_cases he : x = s
    · have HE := hide (openE_yes l n hn (by omega) (by rw [← hx, ← hse]; exact he))
      have HL := hide (show (l.take (n - 4)).length = n - 4 by simp; omega)
      have hst : Sl w A ((l.take (n - 4)).map bv) := by rw [List.map_take]; exact hs.take _
      have he' : ((x : Int) != (s : Int)) = false := by simp; omega
      have HNN := hide hn.symm
      clear hn hx hse he hs
      go_enter Tryz.func179, Tryz.ntmps179
      go_wp2_with fail
      refine HG.out.mono ?_
      rintro e w1 ⟨rfl, rfl⟩
      go_wp2_with fail
      refine HS.out.mono ?_
      rintro e w1 ⟨rfl, hb1⟩
      go_wp2_with (at_builtin; refine app_b _ rfl (.const (.slice none 0 0)) (.tmp 27) rfl w.heap.size _ _ _ _ rfl (OwnB.nil _ _) _ _ _ (l.take (n - 4)) rfl HL.out.symm (hst.below hb1) (by omega) hb1.size (n - 4) (by omega) ?_; intro A3 c3 w3 hown3 _ _ hb3)
      go_ret2
      exact ⟨A3, n - 4, c3, _, by rw [HE.out]; rfl, hown3, openD_yes _ _ HNN.out.symm, hb1.trans hb3⟩
    · have HE := hide (openE_no l n hn (by omega) (by rw [← hx, ← hse]; exact he))
      have he' : ((x : Int) != (s : Int)) = true := by simp; omega
      clear hn hx hse he
      go_enter Tryz.func179, Tryz.ntmps179
      go_wp2_with fail
      refine HG.out.mono ?_
      rintro e w1 ⟨rfl, rfl⟩
      go_wp2_with fail
      refine HS.out.mono ?_
      rintro e w1 ⟨rfl, hb1⟩
      go_wp2_with fail
      go_ret2
      exact ⟨none, 0, 0, [], by rw [HE.out]; rfl, OwnB.nil _ _, openD_no _ _ (by rw [HE.out]; decide), hb1⟩
end
end Go.Proofs.YtehabbnohoomjaaGreatDoor
