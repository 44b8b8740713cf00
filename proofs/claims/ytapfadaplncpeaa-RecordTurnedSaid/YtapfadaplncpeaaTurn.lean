/- The sum finds every burst of at most 32 bits: plain words. No walk. -/
import Derived.Test.YtapfadaplncpeaaRecL
namespace Go.Proofs.Ytapfadaplncpeaa
set_option linter.unusedVariables false
set_option linter.unusedSimpArgs false
set_option linter.unnecessarySimpa false
set_option maxHeartbeats 400000

/-- a list's bit -/
def tb (l : List UInt8) (j : Nat) : Bool := (l.getD (j / 8) 0).toNat.testBit (j % 8)
def feed (f : Nat → Bool) (a : Nat) : Nat → Nat → Nat
  | 0, d => d
  | n + 1, d => crcBit (feed f a n d) (f (a + n)).toNat
theorem feed_lt {d : Nat} (h : U32 d) (f : Nat → Bool) (a n : Nat) : U32 (feed f a n d) := by
  induction n with
  | zero => exact h
  | succ n ih => exact crcBit_lt ih _
theorem feed_cons (f : Nat → Bool) (a n d : Nat) : feed f a (n + 1) d = feed f (a + 1) n (crcBit d (f a).toNat) := by
  induction n with
  | zero => simp [feed]
  | succ n ih =>
    rw [feed, ih]
    simp only [feed]
    rw [show a + (n + 1) = a + 1 + n by omega]
theorem feed_add (f : Nat → Bool) (a n m d : Nat) : feed f a (n + m) d = feed f (a + n) m (feed f a n d) := by
  induction m with
  | zero => rfl
  | succ m ih => rw [← Nat.add_assoc, feed, ih, feed, Nat.add_assoc]
theorem feed_congr {f g : Nat → Bool} {a n : Nat} (h : ∀ i, i < n → f (a + i) = g (a + i)) (d : Nat) : feed f a n d = feed g a n d := by
  induction n with
  | zero => rfl
  | succ n ih => rw [feed, feed, ih (fun i hi => h i (by omega)), h n (by omega)]

theorem xor_mod2 (a b : Nat) : (a ^^^ b) % 2 = (a % 2 + b % 2) % 2 := by
  have h := Nat.xor_mod_two_pow (a := a) (b := b) (n := 1)
  simp only [Nat.pow_one] at h
  rw [h]
  have ha : a % 2 = 0 ∨ a % 2 = 1 := by omega
  have hb : b % 2 = 0 ∨ b % 2 = 1 := by omega
  rcases ha with ha | ha <;> rcases hb with hb | hb <;> rw [ha, hb] <;> rfl
theorem xor_div2 (a b : Nat) : (a ^^^ b) / 2 = a / 2 ^^^ b / 2 := by
  have h := Nat.xor_div_two_pow (a := a) (b := b) (n := 1)
  simpa using h
theorem toNat_xor (b c : Bool) : (b ^^ c).toNat = (b.toNat + c.toNat) % 2 := by cases b <;> cases c <;> rfl
theorem toNat_lt2 (b : Bool) : b.toNat < 2 := by cases b <;> decide
theorem crcBit_xor (r r' : Nat) (b c : Bool) : crcBit r b.toNat ^^^ crcBit r' c.toNat = crcBit (r ^^^ r') (b ^^ c).toNat := by
  have hb := toNat_lt2 b
  have hc := toNat_lt2 c
  unfold crcBit
  rw [xor_mod2, toNat_xor, xor_div2]
  by_cases h1 : r % 2 = b.toNat <;> by_cases h2 : r' % 2 = c.toNat
  · rw [if_pos h1, if_pos h2, if_pos (by omega)]
  · rw [if_pos h1, if_neg h2, if_neg (by omega), Nat.xor_assoc]
  · rw [if_neg h1, if_pos h2, if_neg (by omega)]
    rw [Nat.xor_assoc, Nat.xor_assoc, Nat.xor_comm poly]
  · rw [if_neg h1, if_neg h2, if_pos (by omega)]
    rw [Nat.xor_assoc, ← Nat.xor_assoc poly, Nat.xor_comm poly, Nat.xor_assoc, Nat.xor_self, Nat.xor_zero]
theorem feed_xor (f g : Nat → Bool) (a n d e : Nat) : feed f a n d ^^^ feed g a n e = feed (fun j => f j ^^ g j) a n (d ^^^ e) := by
  induction n with
  | zero => rfl
  | succ n ih => rw [feed, feed, feed, crcBit_xor, ih]
theorem feed_zeros {f : Nat → Bool} {a n : Nat} (h : ∀ i, i < n → f (a + i) = false) : feed f a n 0 = 0 := by
  induction n with
  | zero => rfl
  | succ n ih => rw [feed, ih (fun i hi => h i (by omega)), h n (by omega)]; rfl
/-- backward: what came to a small state -/
theorem crcBit_back {d y : Nat} (hd : U32 d) (b : Bool) (h : crcBit d b.toNat = y) (hy : y < 2147483648) : d = 2 * y + b.toNat := by
  have hb := toNat_lt2 b
  unfold U32 at hd
  unfold crcBit at h
  split at h
  · omega
  · exfalso
    have h1 : (d / 2).testBit 31 = false := Nat.testBit_lt_two_pow (by omega)
    have h2 : poly.testBit 31 = true := by decide
    have h3 : y.testBit 31 = true := by rw [← h, Nat.testBit_xor, h1, h2]; rfl
    have h4 : y.testBit 31 = false := Nat.testBit_lt_two_pow hy
    rw [h3] at h4
    cases h4
def valB (f : Nat → Bool) (a : Nat) : Nat → Nat
  | 0 => 0
  | n + 1 => (f a).toNat + 2 * valB f (a + 1) n
theorem valB_lt (f : Nat → Bool) (a n : Nat) : valB f a n < 2 ^ n := by
  induction n generalizing a with
  | zero => simp [valB]
  | succ n ih =>
    have := ih (a + 1)
    have hb := toNat_lt2 (f a)
    simp only [valB, Nat.pow_succ]
    omega
theorem feed_back {f : Nat → Bool} {a n d : Nat} (hn : n ≤ 32) (hd : U32 d) (h : feed f a n d = 0) : d = valB f a n := by
  induction n generalizing a d with
  | zero => exact h
  | succ n ih =>
    rw [feed_cons] at h
    have h1 := ih (by omega) (crcBit_lt hd _) h
    have h2 := valB_lt f (a + 1) n
    have h3 : 2 ^ n ≤ 2 ^ 31 := Nat.pow_le_pow_right (by omega) (by omega)
    have := crcBit_back hd (f a) h1 (by omega)
    simp only [valB]
    omega
theorem feed_val (f : Nat → Bool) (a n : Nat) : feed f a n (valB f a n) = 0 := by
  induction n generalizing a with
  | zero => rfl
  | succ n ih =>
    rw [feed_cons]
    have hb := toNat_lt2 (f a)
    have : crcBit (valB f a (n + 1)) (f a).toNat = valB f (a + 1) n := by
      simp only [valB]
      rw [crcBit, if_pos (by omega)]
      omega
    rw [this, ih]
theorem valB_zero {f : Nat → Bool} {a n : Nat} (h : valB f a n = 0) : ∀ i, i < n → f (a + i) = false := by
  induction n generalizing a with
  | zero => intro i hi; omega
  | succ n ih =>
    simp only [valB] at h
    intro i hi
    cases i with
    | zero =>
      cases hf : f a with
      | false => rfl
      | true => rw [hf] at h; simp at h
    | succ i =>
      have := ih (a := a + 1) (by omega) i (by omega)
      rw [show a + (i + 1) = a + 1 + i by omega]
      exact this
/-- a state that is not zero stays so while zeros come -/
theorem feed_alive {f : Nat → Bool} {a n d : Nat} (hd : U32 d) (h : ∀ i, i < n → f (a + i) = false) (h0 : feed f a n d = 0) : d = 0 := by
  induction n generalizing a d with
  | zero => exact h0
  | succ n ih =>
    rw [feed_cons] at h0
    have h1 := ih (a := a + 1) (crcBit_lt hd _) (fun i hi => by have := h (i + 1) (by omega); rw [show a + (i + 1) = a + 1 + i by omega] at this; exact this) h0
    have hf := h 0 (by omega)
    rw [Nat.add_zero] at hf
    have := crcBit_back hd (f a) h1 (by omega)
    rw [hf] at this
    simpa using this
/-- a burst: all ones of f lie in 32 that follow one another -/
theorem burst_dead {f : Nat → Bool} {n k m : Nat} (hm : m ≤ 32) (hkm : k + m ≤ n) (hout : ∀ j, j < n → (j < k ∨ k + m ≤ j) → f j = false) (h : feed f 0 n 0 = 0) : ∀ j, j < n → f j = false := by
  have e : n = k + (m + (n - k - m)) := by omega
  rw [e, feed_add, feed_add, Nat.zero_add, feed_zeros (n := k) (fun i hi => by rw [Nat.zero_add]; exact hout i (by omega) (.inl hi))] at h
  have h1 := feed_alive (feed_lt (by unfold U32; omega) f k m) (fun i hi => hout (k + m + i) (by omega) (.inr (by omega))) h
  have h2 := feed_back hm (by unfold U32; omega) h1
  have h3 := valB_zero h2.symm
  intro j hj
  by_cases hc : j < k ∨ k + m ≤ j
  · exact hout j hj hc
  · have := h3 (j - k) (by omega)
    rw [show k + (j - k) = j by omega] at this
    exact this

theorem bit_toNat (x i : Nat) : (x.testBit i).toNat = x / 2 ^ i % 2 := by
  rw [Nat.toNat_testBit]
theorem crcBits_feed (l : List UInt8) (k : Nat) (h : k < l.length) (r j : Nat) (hj : j ≤ 8) : crcBits r (l[k]).toNat j = feed (tb l) (8 * k) j r := by
  induction j with
  | zero => rfl
  | succ j ih =>
    rw [crcBits, ih (by omega), feed]
    congr 1
    have e : tb l (8 * k + j) = (l[k]).toNat.testBit j := by
      unfold tb
      rw [show (8 * k + j) / 8 = k by omega, show (8 * k + j) % 8 = j by omega, List.getD_eq_getElem?_getD, List.getElem?_eq_getElem h]
      rfl
    rw [e, bit_toNat]
theorem crcL_feed (l : List UInt8) (k : Nat) (h : k ≤ l.length) (r : Nat) : crcL r (l.take k) = feed (tb l) 0 (8 * k) r := by
  induction k with
  | zero => simp [crcL, feed]
  | succ k ih =>
    rw [crcL_take_succ r l k (by omega), ih (by omega), crcBits_feed l k (by omega) _ 8 (by omega), Nat.mul_succ, feed_add, Nat.zero_add]

theorem valB_nat (x : Nat) (f : Nat → Bool) (a n : Nat) (h : ∀ i, i < n → f (a + i) = x.testBit i) (hx : x < 2 ^ n) : valB f a n = x := by
  induction n generalizing a x with
  | zero => simp at hx; simp [valB, hx]
  | succ n ih =>
    simp only [valB]
    have h0 := h 0 (by omega)
    rw [Nat.add_zero] at h0
    rw [ih (x / 2) (a + 1) (fun i hi => by rw [show a + 1 + i = a + (i + 1) by omega, h (i + 1) (by omega), Nat.testBit_succ]) (by rw [Nat.pow_succ] at hx; omega), h0, bit_toNat]
    simp
    omega
theorem leN_testBit (l : List UInt8) (i : Nat) : (leN l).testBit i = tb l i := by
  induction l generalizing i with
  | nil => simp [leN, tb]
  | cons c l ih =>
    have hc : c.toNat < 2 ^ 8 := c.toNat_lt
    simp only [leN]
    rw [show c.toNat + 256 * leN l = 2 ^ 8 * leN l + c.toNat by omega, Nat.testBit_two_pow_mul_add _ hc]
    unfold tb
    by_cases h : i < 8
    · rw [if_pos h, show i / 8 = 0 by omega, show i % 8 = i by omega]
      rfl
    · rw [if_neg h, ih]
      unfold tb
      obtain ⟨q, hq⟩ : ∃ q, i / 8 = q + 1 := ⟨i / 8 - 1, by omega⟩
      rw [show (i - 8) / 8 = q by omega, show (i - 8) % 8 = i % 8 by omega, hq]
      rfl
theorem tb_drop (l : List UInt8) (k i : Nat) : tb (l.drop k) i = tb l (8 * k + i) := by
  unfold tb
  rw [show (8 * k + i) / 8 = k + i / 8 by omega, show (8 * k + i) % 8 = i % 8 by omega]
  simp [List.getD_eq_getElem?_getD, List.getElem?_drop]
theorem comp_xor (s : Nat) (h : U32 s) : 4294967295 ^^^ s = 4294967295 - s := by
  have h' : s < 4294967296 := h
  have e : (BitVec.ofNat 32 4294967295 ^^^ BitVec.ofNat 32 s).toNat = (~~~ BitVec.ofNat 32 s).toNat := by
    rw [show BitVec.ofNat 32 4294967295 = BitVec.allOnes 32 from rfl, BitVec.allOnes_xor]
  rw [BitVec.toNat_xor, BitVec.toNat_not, BitVec.toNat_ofNat, BitVec.toNat_ofNat, Nat.mod_eq_of_lt (by decide), Nat.mod_eq_of_lt h'] at e
  rw [e]
theorem comp_xor2 (r r' : Nat) (h : U32 r) (h' : U32 r') : (4294967295 - r) ^^^ (4294967295 - r') = r ^^^ r' := by
  rw [← comp_xor r h, ← comp_xor r' h', Nat.xor_comm 4294967295 r, Nat.xor_assoc, ← Nat.xor_assoc 4294967295, Nat.xor_self, Nat.zero_xor]
theorem crcOn0 (l : List UInt8) : crcOn 0 l = 4294967295 - crcL 4294967295 l := rfl

theorem turned_openE (y x' : List UInt8) (k m : Nat) (hlen : x'.length = y.length + 4) (hm : m ≤ 32) (hkm : k + m ≤ 8 * (y.length + 4))
    (hout : ∀ j, j < 8 * (y.length + 4) → (j < k ∨ k + m ≤ j) → tb (sealL y) j = tb x' j) (hdiff : ∃ j, j < 8 * (y.length + 4) ∧ tb (sealL y) j ≠ tb x' j) : openE x' = 5 := by
  rcases openE_val x' (by omega) with h | h
  case inr => exact h
  exfalso
  have hs := sealL_length y
  have hS : leN (x'.drop y.length) = crcOn 0 (x'.take y.length) := by
    unfold openE at h
    rw [if_neg (by omega), show x'.length - 4 = y.length by omega] at h
    split at h
    · assumption
    · cases h
  have hS0 : leN ((sealL y).drop y.length) = crcOn 0 y := by
    rw [sealL, List.drop_left, leN_leB]
    exact Nat.mod_eq_of_lt (crcOn_lt _ _)
  have hfull : U32 4294967295 := by unfold U32; omega
  have hr : crcL 4294967295 y = feed (tb (sealL y)) 0 (8 * y.length) 4294967295 := by
    rw [← crcL_feed (sealL y) y.length (by omega)]
    congr 1
    rw [sealL, List.take_left]
  have hr' : crcL 4294967295 (x'.take y.length) = feed (tb x') 0 (8 * y.length) 4294967295 := (crcL_feed x' y.length (by omega) _)
  have hx := feed_xor (tb (sealL y)) (tb x') 0 (8 * y.length) 4294967295 4294967295
  rw [Nat.xor_self, ← hr, ← hr'] at hx
  have hv : valB (fun j => tb (sealL y) j ^^ tb x' j) (8 * y.length) 32 = crcL 4294967295 y ^^^ crcL 4294967295 (x'.take y.length) := by
    refine valB_nat _ _ _ _ ?_ (Nat.xor_lt_two_pow (n := 32) (crcL_lt hfull _) (crcL_lt hfull _))
    intro i hi
    rw [← comp_xor2 _ _ (crcL_lt hfull _) (crcL_lt hfull _), ← crcOn0, ← crcOn0, ← hS0, ← hS, Nat.testBit_xor, leN_testBit, leN_testBit, tb_drop, tb_drop]
  have h0 : feed (fun j => tb (sealL y) j ^^ tb x' j) 0 (8 * (y.length + 4)) 0 = 0 := by
    rw [show 8 * (y.length + 4) = 8 * y.length + 32 by omega, feed_add, ← hx, ← hv, Nat.zero_add]
    exact feed_val _ _ _
  have hd := burst_dead hm hkm (fun j hj hjo => by rw [hout j hj hjo]; simp) h0
  obtain ⟨j, hj, hne⟩ := hdiff
  have := hd j hj
  simp at this
  exact hne this

theorem byte_ext (a b : UInt8) (h : ∀ i, i < 8 → a.toNat.testBit i = b.toNat.testBit i) : a = b := by
  apply UInt8.toNat.inj
  apply Nat.eq_of_testBit_eq
  intro i
  by_cases hi : i < 8
  · exact h i hi
  · have ha : a.toNat < 2 ^ i := Nat.lt_of_lt_of_le a.toNat_lt (Nat.pow_le_pow_right (n := 2) (by omega) (show 8 ≤ i by omega))
    have hb : b.toNat < 2 ^ i := Nat.lt_of_lt_of_le b.toNat_lt (Nat.pow_le_pow_right (n := 2) (by omega) (show 8 ≤ i by omega))
    rw [Nat.testBit_lt_two_pow ha, Nat.testBit_lt_two_pow hb]
theorem tb_byte (l : List UInt8) (q i : Nat) (hi : i < 8) : tb l (8 * q + i) = (l.getD q 0).toNat.testBit i := by
  unfold tb
  rw [show (8 * q + i) / 8 = q by omega, show (8 * q + i) % 8 = i by omega]
theorem getD_of_bits (l l' : List UInt8) (q : Nat) (h : ∀ j, 8 * q ≤ j → j < 8 * q + 8 → tb l j = tb l' j) : l.getD q 0 = l'.getD q 0 := by
  apply byte_ext
  intro i hi
  rw [← tb_byte l q i hi, ← tb_byte l' q i hi]
  exact h _ (by omega) (by omega)
/-- the pattern of a burst, up to its first i bits -/
def patB (burst k i n j : Nat) : Bool := decide (k ≤ j ∧ j < k + i ∧ j < n) && burst.testBit (j - k)
def turnedB (burst k n : Nat) : Nat → Bool
  | 0 => false
  | i + 1 => turnedB burst k n i || (decide (k + i < n) && burst.testBit i)
theorem turnedB_yes {burst k n i : Nat} (h : turnedB burst k n i = true) : ∃ j, j < n ∧ patB burst k i n j = true := by
  induction i with
  | zero => cases h
  | succ i ih =>
    simp only [turnedB, Bool.or_eq_true, Bool.and_eq_true, decide_eq_true_eq] at h
    rcases h with h | ⟨h1, h2⟩
    · obtain ⟨j, hj, hp⟩ := ih h
      refine ⟨j, hj, ?_⟩
      simp only [patB, Bool.and_eq_true, decide_eq_true_eq] at hp ⊢
      exact ⟨by omega, hp.2⟩
    · refine ⟨k + i, h1, ?_⟩
      simp only [patB, Bool.and_eq_true, decide_eq_true_eq]
      exact ⟨by omega, by rw [show k + i - k = i by omega]; exact h2⟩
theorem turnedB_no {burst k n i : Nat} (h : turnedB burst k n i = false) : ∀ j, patB burst k i n j = false := by
  induction i with
  | zero => intro j; simp [patB]; intro a b; omega
  | succ i ih =>
    simp only [turnedB, Bool.or_eq_false_iff] at h
    intro j
    have h1 := ih h.1 j
    have h2 := h.2
    simp only [patB, Bool.and_eq_false_iff, decide_eq_false_iff_not] at h1 h2 ⊢
    by_cases hj : j = k + i
    · subst hj
      rw [show k + i - k = i by omega]
      rcases h2 with h2 | h2
      · left; omega
      · right; exact h2
    · rcases h1 with h1 | h1
      · left; omega
      · right; exact h1
/-- what Parse says of a record that was turned -/
theorem turned_parse (k0 num : Nat) (l x' : List UInt8) (burst k i : Nat) (h : rightR k0 num l.length = 0) (hu : U32 num) (hlen : x'.length = l.length + 13) (hi : i ≤ 32) (hk : 64 ≤ k) (hki : k + i ≤ 8 * (l.length + 12))
    (hbits : ∀ j, j < 8 * (l.length + 13) → tb x' j = (tb (recB k0 num l) j ^^ patB burst k i (8 * (l.length + 12)) j)) :
    recParse x' 0 = if turnedB burst k (8 * (l.length + 12)) i = true then ⟨0, 0, [], 0, 5⟩ else ⟨k0, num, l, (l.length : Int) + 13, 0⟩ := by
  have hB := recB_yes k0 num l.length l rfl h
  have hH := recH_length k0 num l.length
  obtain ⟨hp, hbl⟩ := build_parse_rec [] [] l k0 num h hu
  simp only [List.nil_append, List.append_nil, List.length_nil] at hp
  by_cases ht : turnedB burst k (8 * (l.length + 12)) i = true
  case neg =>
    rw [if_neg ht]
    have hn := turnedB_no (by simpa using ht : turnedB burst k (8 * (l.length + 12)) i = false)
    have hx : x' = recB k0 num l := by
      apply List.ext_getElem?
      intro q
      by_cases hq : q < l.length + 13
      · have hg := getD_of_bits x' (recB k0 num l) q (fun j h1 h2 => by rw [hbits j (by omega), hn]; simp)
        rw [List.getD_eq_getElem?_getD, List.getD_eq_getElem?_getD, List.getElem?_eq_getElem (by omega), List.getElem?_eq_getElem (by omega)] at hg
        rw [List.getElem?_eq_getElem (by omega), List.getElem?_eq_getElem (by omega)]
        exact congrArg some hg
      · rw [List.getElem?_eq_none (by omega), List.getElem?_eq_none (by omega)]
    rw [hx]
    simpa using hp
  case pos =>
    rw [if_pos ht]
    have hy : (recH k0 num l.length ++ l).length = l.length + 8 := by rw [List.length_append, hH]; omega
    have hsl : (sealL (recH k0 num l.length ++ l)).length = l.length + 12 := by rw [sealL_length, hy]
    have htb : ∀ j, j < 8 * (l.length + 12) → tb (recB k0 num l) j = tb (sealL (recH k0 num l.length ++ l)) j := by
      intro j hj
      unfold tb
      rw [hB, List.getD_eq_getElem?_getD, List.getD_eq_getElem?_getD, List.getElem?_append_left (by rw [hsl]; omega)]
    have htx : ∀ j, j < 8 * (l.length + 12) → tb x' j = tb (x'.take (l.length + 12)) j := by
      intro j hj
      unfold tb
      rw [List.getD_eq_getElem?_getD, List.getD_eq_getElem?_getD, List.getElem?_take, if_pos (by omega)]
    have hopen : openE (x'.take (l.length + 12)) = 5 := by
      refine turned_openE (recH k0 num l.length ++ l) _ k i (by rw [List.length_take, hy]; omega) hi (by rw [hy]; omega) ?_ ?_
      · intro j hj hjo
        rw [hy] at hj
        rw [← htb j (by omega), ← htx j (by omega), hbits j (by omega)]
        have : patB burst k i (8 * (l.length + 12)) j = false := by
          simp only [patB, Bool.and_eq_false_iff, decide_eq_false_iff_not]
          left; omega
        rw [this]; simp
      · obtain ⟨j, hj, hpj⟩ := turnedB_yes ht
        refine ⟨j, by rw [hy]; omega, ?_⟩
        rw [← htb j (by omega), ← htx j (by omega), hbits j (by omega), hpj]
        simp
    have h8 : x'.take 8 = recH k0 num l.length := by
      apply List.ext_getElem?
      intro q
      by_cases hq : q < 8
      · have hg := getD_of_bits x' (recB k0 num l) q (fun j h1 h2 => by
          rw [hbits j (by omega)]
          have : patB burst k i (8 * (l.length + 12)) j = false := by
            simp only [patB, Bool.and_eq_false_iff, decide_eq_false_iff_not]
            left; omega
          rw [this]; simp)
        rw [List.getD_eq_getElem?_getD, List.getElem?_eq_getElem (by omega), hB, List.getD_eq_getElem?_getD, List.getElem?_append_left (by rw [hsl]; omega), sealL, List.getElem?_append_left (by rw [hy]; omega), List.getElem?_append_left (by omega)] at hg
        rw [List.getElem?_take, if_pos hq, List.getElem?_eq_getElem (by omega)]
        rw [List.getElem?_eq_getElem (by omega)] at hg ⊢
        exact congrArg some hg
      · rw [List.getElem?_eq_none (by simp; omega), List.getElem?_eq_none (by omega)]
    have hx : x' = recH k0 num l.length ++ x'.drop 8 := by rw [← h8, List.take_append_drop]
    obtain ⟨k1, k2, k3, k4, k5⟩ := right_ok k0 num l.length h
    obtain ⟨e1, e2, e3, e4⟩ := recX_of k0 num l.length (x'.drop 8) (by omega) hu (by omega)
    rw [← hx] at e1 e2 e3 e4
    have hp0 := recParse_at x' 0 (by omega)
    rw [List.drop_zero] at hp0
    rw [show ((0 : Nat) : Int) = 0 from rfl] at hp0
    rw [hp0, recAt_sum (by omega) e4 (by rw [e1, e2, e3]; exact fits_of _ _ _ h) (by omega) (by rw [e3, hopen]; decide)]
end Go.Proofs.Ytapfadaplncpeaa
