/- An upload over a dictionary of one entry, plain. No program in sight. -/
import Derived.Test.YtimdmhhgomfijaaGreatSegL
import Derived.Test.YtimdmhhgomfijaaGreatEntC
namespace Go.Proofs.YtimdmhhgomfijaaGreat
set_option linter.unusedVariables false
set_option linter.unusedSimpArgs false
set_option linter.unnecessarySimpa false
open Go.RowKit
theorem one_find (E : Ent) : findL [E] E.ix E.sub = 0 := by
  unfold findL findA
  rw [if_neg (by simp), if_pos rfl]
  rfl
theorem one_loc (E : Ent) : locK [E] E.ix E.sub = 0 ∧ codeL [E] E.ix E.sub = 0 ∧ entK [E] 0 = E := by
  refine ⟨by unfold locK; rw [one_find]; rfl, code_zero.2 (by rw [one_find]; omega), rfl⟩
theorem one_get (E : Ent) (h : E.acc ≠ 3) : getC [E] E.ix E.sub = 0 ∧ getB [E] [E.df] E.ix E.sub = E.df := by
  obtain ⟨h1, h2, h3⟩ := one_loc E
  have hc : getC [E] E.ix E.sub = 0 := by unfold getC; rw [if_pos h2, h1, h3]; unfold readE; rw [if_neg h]
  exact ⟨hc, by unfold getB; rw [if_pos hc, h1]; rfl⟩
def upMsg (E : Ent) : Ms := ⟨4, E.ix, E.sub, false, false, false, false, 0, 0, [], 0, 0, 0, 0⟩
def nxMsg (tg : Bool) : Ms := ⟨5, 0, 0, tg, false, false, false, 0, 0, [], 0, 0, 0, 0⟩
/-- a server that gives, b left -/
def givS (E : Ent) (b : List UInt8) (tg : Bool) : SegS := ⟨2, E.ix, E.sub, 0, 0, b, tg, 0, 0, 0, false⟩
def doneS (E : Ent) (tg : Bool) : SegS := ⟨0, E.ix, E.sub, 0, 0, [], tg, 0, 0, 0, false⟩
theorem up_short (E : Ent) (h : E.acc ≠ 3) (h0 : 0 < E.df.length) (h4 : E.df.length ≤ 4) : recvS [E] [E.df] segZ (upMsg E) = segZ ∧ recvO [E] [E.df] segZ (upMsg E) = outM (upM E.ix E.sub 0 E.df) := by
  obtain ⟨h1, h2⟩ := one_get E h
  constructor
  · unfold recvS
    rw [if_neg (by simp [upMsg]), if_neg (by simp [upMsg]), if_pos (show (upMsg E).kind = 4 from rfl)]
    unfold upS
    rw [show (upMsg E).ix = E.ix from rfl, show (upMsg E).sub = E.sub from rfl, if_neg (by rw [h1]; simp), if_pos (by rw [h2]; exact ⟨h0, h4⟩)]
    rfl
  · unfold recvO
    rw [if_neg (by simp [upMsg]), if_neg (by simp [upMsg]), if_pos (show (upMsg E).kind = 4 from rfl)]
    unfold upO
    rw [show (upMsg E).ix = E.ix from rfl, show (upMsg E).sub = E.sub from rfl, if_neg (by rw [h1]; simp), if_pos (by rw [h2]; exact ⟨h0, h4⟩), h2]
theorem up_long (E : Ent) (h : E.acc ≠ 3) (hn : ¬ (0 < E.df.length ∧ E.df.length ≤ 4)) : recvS [E] [E.df] segZ (upMsg E) = givS E E.df false ∧ recvO [E] [E.df] segZ (upMsg E) = outM (upM E.ix E.sub E.df.length []) := by
  obtain ⟨h1, h2⟩ := one_get E h
  constructor
  · unfold recvS
    rw [if_neg (by simp [upMsg]), if_neg (by simp [upMsg]), if_pos (show (upMsg E).kind = 4 from rfl)]
    unfold upS
    rw [show (upMsg E).ix = E.ix from rfl, show (upMsg E).sub = E.sub from rfl, if_neg (by rw [h1]; simp), if_neg (by rw [h2]; exact hn), h2]
    rfl
  · unfold recvO
    rw [if_neg (by simp [upMsg]), if_neg (by simp [upMsg]), if_pos (show (upMsg E).kind = 4 from rfl)]
    unfold upO
    rw [show (upMsg E).ix = E.ix from rfl, show (upMsg E).sub = E.sub from rfl, if_neg (by rw [h1]; simp), if_neg (by rw [h2]; exact hn), h2]
theorem next_more (L : List Ent) (V : List (List UInt8)) (E : Ent) (b : List UInt8) (tg : Bool) (h : ¬ b.length ≤ 7) : recvS L V (givS E b tg) (nxMsg tg) = givS E (b.drop 7) (!tg) ∧ recvO L V (givS E b tg) (nxMsg tg) = outM (segM tg false (b.take 7)) := by
  constructor
  · unfold recvS
    rw [if_neg (by simp [nxMsg]), if_neg (by simp [nxMsg]), if_neg (by simp [nxMsg]), if_neg (by simp [nxMsg]), if_pos ⟨rfl, rfl⟩]
    unfold nextS
    rw [if_neg (by simp [nxMsg, givS]), if_neg (show ¬ (givS E b tg).b.length ≤ 7 from h)]
    rfl
  · unfold recvO
    rw [if_neg (by simp [nxMsg]), if_neg (by simp [nxMsg]), if_neg (by simp [nxMsg]), if_neg (by simp [nxMsg]), if_pos ⟨rfl, rfl⟩]
    unfold nextO
    rw [if_neg (by simp [nxMsg, givS]), show decide ((givS E b tg).b.length ≤ 7) = false from decide_eq_false (show ¬ (givS E b tg).b.length ≤ 7 from h)]
    rfl
theorem next_last (L : List Ent) (V : List (List UInt8)) (E : Ent) (b : List UInt8) (tg : Bool) (h : b.length ≤ 7) : recvS L V (givS E b tg) (nxMsg tg) = doneS E (!tg) ∧ recvO L V (givS E b tg) (nxMsg tg) = outM (segM tg true b) := by
  constructor
  · unfold recvS
    rw [if_neg (by simp [nxMsg]), if_neg (by simp [nxMsg]), if_neg (by simp [nxMsg]), if_neg (by simp [nxMsg]), if_pos ⟨rfl, rfl⟩]
    unfold nextS
    rw [if_neg (by simp [nxMsg, givS]), if_pos (show (givS E b tg).b.length ≤ 7 from h)]
    rfl
  · unfold recvO
    rw [if_neg (by simp [nxMsg]), if_neg (by simp [nxMsg]), if_neg (by simp [nxMsg]), if_neg (by simp [nxMsg]), if_pos ⟨rfl, rfl⟩]
    unfold nextO
    rw [if_neg (by simp [nxMsg, givS]), show decide ((givS E b tg).b.length ≤ 7) = true from decide_eq_true (show (givS E b tg).b.length ≤ 7 from h)]
    show outM (segM tg true (b.take 7)) = _
    rw [List.take_of_length_le h]
theorem size_le (t : Int) : tySize t ≤ 8 := by unfold tySize; (repeat' split) <;> omega
theorem val_len {E : Ent} {b : List UInt8} (h : valC E b = 0) : b.length ≤ 256 := by
  unfold valC at h
  by_cases hb : 0 < tyBits E.ty
  · rw [value_num hb] at h
    unfold NumV at h
    have h8 := size_le E.ty
    by_cases h1 : (b.length : Int) < tySize E.ty
    · omega
    · by_cases h2 : tySize E.ty < (b.length : Int)
      · exfalso
        have hd : decE E.ty b = 3 := by unfold decE; rw [if_neg (by omega), if_neg h1, if_pos h2]
        rw [hd] at h
        simp at h
      · omega
  · rw [value_other hb] at h
    by_cases hc : checkE E.ty E.mx b = 0
    · unfold checkE at hc
      split at hc
      · omega
      · split at hc
        · omega
        · omega
    · rw [if_neg hc] at h
      exfalso
      revert h
      (repeat' split) <;> omega
/-- the entry's own value is one -/
def ValsP1 (E : Ent) : Prop := valC E E.df = 0 ∧ E.df.length ≤ 256
theorem right_one {E : Ent} {a : Int} (h : NewP [E] 0 a) : ValsP1 E := by
  have hr : rightE E = 0 := by
    rcases h with ⟨_, h, _⟩ | ⟨_, h, _⟩ | ⟨_, _, _, h⟩
    · omega
    · exact absurd rfl h
    · exact rightE_zero (L := [E]) (k := 0) rfl (h 0 (by simp))
  have hv : valC E E.df = 0 := by
    unfold rightE at hr
    unfold valC
    split at hr
    · omega
    split at hr
    · omega
    split at hr
    · omega
    split at hr
    · omega
    split at hr
    · omega
    split at hr
    · omega
    · rename_i hh; simpa using hh
  exact ⟨hv, val_len hv⟩
end Go.Proofs.YtimdmhhgomfijaaGreat
