/- Words of this proof: bytes as values, slices that read as lists, numbers laid down as bytes. No program in sight. -/
import Derived.WalkKit
import Derived.WalkSpells
import Derived.WalkLawsBesides
namespace Go.Proofs.Ythdbckbpldlkeaa
set_option linter.unusedVariables false
set_option linter.unusedSimpArgs false
set_option linter.unnecessarySimpa false
open Go.RowKit

theorem hide {p : Prop} (h : p) : Hid p := h

def bv (c : UInt8) : Value := .int .u8 c.toNat
/-- the slice at A reads as the values xs (one cell each) -/
def Sl (w : World) (A : Option Addr) (xs : List Value) : Prop := ∀ j u, xs[j]? = some u → ∃ ad, A = some ad ∧ w.cell? (ad.add j) = some u

theorem Sl.nil (w : World) (A : Option Addr) : Sl w A [] := by intro j u h; simp at h
theorem Sl.byte {w : World} {A : Option Addr} {l : List UInt8} (h : Sl w A (l.map bv)) {j : Nat} (hj : j < l.length) :
    ∃ ad, A = some ad ∧ w.cell? (ad.add j) = some (.int .u8 (l[j]).toNat) :=
  h j _ (by simp [List.getElem?_map, List.getElem?_eq_getElem hj]; rfl)
theorem Sl.at_ {w : World} {A : Option Addr} {xs : List Value} (h : Sl w A xs) {j : Nat} {u : Value} (hj : xs[j]? = some u) :
    ∃ b off, A = some ⟨b, off, none⟩ ∧ w.cell? ⟨b, off + j, none⟩ = some u := by
  obtain ⟨⟨b, off, spot⟩, rfl, hc⟩ := h j u hj
  by_cases h0 : j = 0
  · subst h0
    have : spot = none := by
      have := World.cell?_spot hc
      simpa [Addr.add] using this
    subst this
    exact ⟨b, off, rfl, by simpa [Addr.add] using hc⟩
  · obtain ⟨⟨b', off', spot'⟩, h', hc'⟩ := h 0 (xs[0]'(by have := (List.getElem?_eq_some_iff.1 hj).1; omega)) (List.getElem?_eq_getElem _)
    injection h' with h'
    rw [← h'] at hc'
    have : spot = none := by
      have := World.cell?_spot hc'
      simpa [Addr.add] using this
    subst this
    exact ⟨b, off, rfl, by simpa [Addr.add, h0] using hc⟩
theorem Sl.byte_ {w : World} {A : Option Addr} {l : List UInt8} (h : Sl w A (l.map bv)) {j : Nat} (hj : j < l.length) :
    ∃ b off, A = some ⟨b, off, none⟩ ∧ w.cell? ⟨b, off + j, none⟩ = some (.int .u8 (l[j]).toNat) :=
  h.at_ (j := j) (by simp [List.getElem?_map, List.getElem?_eq_getElem hj]; rfl)
theorem Sl.keep {w w' : World} {A : Option Addr} {xs : List Value} (h : Sl w A xs) (hk : ∀ p v, w.cell? p = some v → w'.cell? p = some v) : Sl w' A xs := by
  intro j u hu
  obtain ⟨ad, e, hc⟩ := h j u hu
  exact ⟨ad, e, hk _ _ hc⟩
theorem Sl.drew {w : World} {A : Option Addr} {xs : List Value} (h : Sl w A xs) : Sl w.drew A xs := h
theorem lt_of_cell {w : World} {p : Addr} {v : Value} (h : w.cell? p = some v) : p.block < w.heap.size := World.block_lt_of_cell? w p h
theorem Sl.below {w w' : World} {A : Option Addr} {xs : List Value} (h : Sl w A xs) (hb : Below w.heap.size w w') : Sl w' A xs :=
  h.keep fun _ _ hc => (hb.cell (lt_of_cell hc)).trans hc
theorem add_block (a : Addr) (n : Nat) : (a.add n).block = a.block := by unfold Addr.add; split <;> rfl
theorem add_add (a : Addr) (i j : Nat) : (a.add i).add j = a.add (i + j) := by
  unfold Addr.add
  by_cases hi : i = 0 <;> by_cases hj : j = 0 <;> simp [hi, hj, Nat.add_assoc]
theorem Sl.cut {w : World} {A : Option Addr} {xs : List Value} (h : Sl w A xs) {k cap : Nat} (hc : xs.length ≤ cap) :
    Sl w (if cap = k then A else A.map (·.add k)) (xs.drop k) := by
  intro j u hu
  rw [List.getElem?_drop] at hu
  obtain ⟨ad, rfl, hcell⟩ := h _ _ hu
  have := (List.getElem?_eq_some_iff.1 hu).1
  rw [if_neg (by omega)]
  exact ⟨ad.add k, rfl, by rw [add_add]; exact hcell⟩
theorem Sl.take {w : World} {A : Option Addr} {xs : List Value} (h : Sl w A xs) (k : Nat) : Sl w A (xs.take k) := by
  intro j u hu
  rw [List.getElem?_take] at hu
  split at hu
  · exact h _ _ hu
  · simp at hu
theorem Sl.of_own {w : World} {base e n c : Nat} {A : Option Addr} {xs : List Value} (h : w.ownsRow base e 1 (.slice A n c) n xs) : Sl w A xs := by
  intro j u hu
  rcases h.2 with ⟨hv, h0⟩ | ⟨g, cap, cur, hv, hb, hg, hn, hm, hs, ht⟩
  · have := h.1
    have := (List.getElem?_eq_some_iff.1 hu).1
    omega
  · injection hv with hA _ _
    subst hA
    exact ⟨_, rfl, h.cells (g := g) rfl j u hu⟩

/-! numbers as bytes, the lowest first -/
def leN : List UInt8 → Nat
  | [] => 0
  | c :: l => c.toNat + 256 * leN l
def leB : Nat → Nat → List UInt8
  | 0, _ => []
  | k + 1, n => UInt8.ofNat n :: leB k (n / 256)
theorem leB_length (k n : Nat) : (leB k n).length = k := by
  induction k generalizing n with
  | zero => rfl
  | succ k ih => simp [leB, ih]
theorem leN_lt (l : List UInt8) : leN l < 256 ^ l.length := by
  induction l with
  | nil => simp [leN]
  | cons c l ih =>
    have := c.toNat_lt
    simp only [leN, List.length_cons, Nat.pow_succ]
    omega
theorem leN_leB (k n : Nat) : leN (leB k n) = n % 256 ^ k := by
  induction k generalizing n with
  | zero => simp [leB, leN, Nat.mod_one]
  | succ k ih =>
    have h := @Nat.mod_mul 256 (256 ^ k) n
    simp only [leB, leN, ih, UInt8.toNat_ofNat', Nat.pow_succ]
    rw [Nat.mul_comm (256 ^ k) 256, h]
theorem leB_leN (l : List UInt8) : leB l.length (leN l) = l := by
  induction l with
  | nil => rfl
  | cons c l ih =>
    have := c.toNat_lt
    simp only [List.length_cons, leB, leN]
    have e1 : (c.toNat + 256 * leN l) / 256 = leN l := by omega
    rw [e1, ih]
    congr 1
    apply UInt8.toNat.inj
    simp only [UInt8.toNat_ofNat']
    omega
theorem leN_snoc (l : List UInt8) (c : UInt8) : leN (l ++ [c]) = leN l + 256 ^ l.length * c.toNat := by
  induction l with
  | nil => simp [leN]
  | cons d l ih => simp [leN, ih, Nat.pow_succ, Nat.mul_add, Nat.add_assoc, Nat.mul_assoc, Nat.mul_comm, Nat.mul_left_comm]
theorem leN_take_succ (l : List UInt8) (k : Nat) (h : k < l.length) : leN (l.take (k + 1)) = leN (l.take k) + 256 ^ k * (l[k]).toNat := by
  rw [List.take_succ_eq_append_getElem h, leN_snoc]
  simp [Nat.min_eq_left (Nat.le_of_lt h)]
theorem leB_snoc (k n : Nat) : leB (k + 1) n = leB k n ++ [UInt8.ofNat (n / 256 ^ k)] := by
  induction k generalizing n with
  | zero => simp [leB]
  | succ k ih =>
    rw [leB, ih]
    simp [leB, Nat.div_div_eq_div_mul, Nat.pow_succ, Nat.mul_comm]
theorem pow256_le {k : Nat} (h : k ≤ 7) : 256 ^ k ≤ 72057594037927936 := by
  have : 256 ^ k ≤ 256 ^ 7 := Nat.pow_le_pow_right (by omega) h
  simpa using this
theorem pow256_two (k : Nat) : 2 ^ (8 * k) = 256 ^ k := by rw [Nat.pow_mul]
/-- one step of reading a number of bytes: the walk's spelling -/
theorem or_step (a b k : Nat) (ha : a < 256 ^ k) (hb : b < 256) (hk : k ≤ 7) :
    bits BinOp.or IntKind.u64 (a : Int) (IntKind.u64.wrap (IntKind.u64.wrap (b : Int) * 2 ^ (8 * k))) = ((a + 256 ^ k * b : Nat) : Int) := by
  have hp := pow256_le hk
  have e1 : IntKind.u64.wrap (b : Int) = b := by rw [IntKind.wrap_u64]; omega
  have hm : 256 ^ k * b ≤ 72057594037927936 * 255 := Nat.mul_le_mul hp (by omega)
  have e2 : IntKind.u64.wrap ((b : Int) * 2 ^ (8 * k)) = ((256 ^ k * b : Nat) : Int) := by
    have : ((b : Int) * 2 ^ (8 * k)) = ((256 ^ k * b : Nat) : Int) := by
      rw [← pow256_two]; push_cast; rw [Int.mul_comm]
    rw [this, IntKind.wrap_u64]
    omega
  rw [e1, e2, u64_or_nat a _ (by omega) (by omega)]
  have e3 : a ||| 256 ^ k * b = a + 256 ^ k * b := by
    rw [Nat.or_comm, Nat.add_comm, ← pow256_two]
    exact nat_join (8 * k) _ _ (by simp) (by rw [pow256_two]; exact ha)
  rw [e3]
/-- x fits in a uint64 (a name, so that the numeral does not stand in the walk's context) -/
def U64 (x : Nat) : Prop := x < 18446744073709551616
theorem U64.div {x : Nat} (h : U64 x) (k : Nat) : U64 (x / k) := Nat.lt_of_le_of_lt (Nat.div_le_self _ _) h
theorem U64.small {x : Nat} (h : x ≤ 4294967295) : U64 x := by unfold U64; omega
theorem u64_wrap {x : Nat} (h : U64 x) : IntKind.u64.wrap (x : Int) = x := by unfold U64 at h; rw [IntKind.wrap_u64]; omega
theorem u64_div {x : Nat} (h : U64 x) (k : Nat) : IntKind.u64.wrap ((x : Int) / (k : Int)) = ((x / k : Nat) : Int) := by
  rw [show ((x : Int) / (k : Int)) = ((x / k : Nat) : Int) by push_cast; rfl]
  exact u64_wrap (h.div k)
theorem leN_U64 {l : List UInt8} (h : l.length ≤ 8) : U64 (leN l) := by
  have h1 := leN_lt l
  have h2 : 256 ^ l.length ≤ 256 ^ 8 := Nat.pow_le_pow_right (by omega) h
  have h3 : (256 : Nat) ^ 8 = 18446744073709551616 := by decide
  unfold U64
  omega
theorem p1 : 256 ^ (Int.toNat 1) = 256 := rfl
theorem p2 : 256 ^ (Int.toNat 2) = 65536 := rfl
theorem p4 : 256 ^ (Int.toNat 4) = 4294967296 := rfl
theorem ret_int {k : IntKind} {a b : Int} (h : a = b) : Ending.returned (.int k a) = .returned (.int k b) := by rw [h]
theorem ret_bool {a b : Bool} (h : a = b) : Ending.returned (.bool a) = .returned (.bool b) := by rw [h]
end Go.Proofs.Ythdbckbpldlkeaa
