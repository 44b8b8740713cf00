/- A download over a dictionary of one entry, plain. No program in sight. -/
import Derived.Test.YtimdmhhgomfijaaSegU
namespace Go.Proofs.Ytimdmhhgomfijaa
set_option linter.unusedVariables false
set_option linter.unusedSimpArgs false
set_option linter.unnecessarySimpa false
open Go.RowKit
/-- the number's bytes fit: the size told, or -1 -/
def szD (s : Bool) (k : Nat) : Int := if s = true then (k : Int) else -1
def dnMsg (E : Ent) (k : Nat) (s : Bool) : Ms := ⟨2, E.ix, E.sub, false, false, false, s, (if s = true then k else 0), 0, [], 0, 0, 0, 0⟩
def dsMsg (tg la : Bool) (d : List UInt8) : Ms := ⟨3, 0, 0, tg, la, false, false, 0, 0, d, 0, 0, 0, 0⟩
/-- a server that takes, b taken -/
def tkS (E : Ent) (sz : Int) (b : List UInt8) (tg : Bool) : SegS := ⟨1, E.ix, E.sub, mostE E, sz, b, tg, 0, 0, 0, false⟩
/-- a server that waits for the answer -/
def wtS (E : Ent) (sz : Int) (b : List UInt8) (tg : Bool) : SegS := ⟨3, E.ix, E.sub, mostE E, sz, b, !tg, 13, 0, 0, tg⟩
theorem one_may (E : Ent) (h : writeE E.acc = 0) : smayC [E] E.ix E.sub = 0 := by
  obtain ⟨h1, h2, h3⟩ := one_loc E
  unfold smayC
  rw [if_pos h2, h1, h3, h]
theorem dn_first (V : List (List UInt8)) (E : Ent) (k : Nat) (s : Bool) (h : writeE E.acc = 0) (hf : fitsC E k = 0) : recvS [E] V segZ (dnMsg E k s) = tkS E (szD s k) [] false ∧ recvO [E] V segZ (dnMsg E k s) = outM (okM 12 E.ix E.sub false) := by
  have h1 := one_may E h
  obtain ⟨h2, _, h3⟩ := one_loc E
  have hd : dcode [E] (dnMsg E k s) = 0 := by
    unfold dcode
    split
    · rename_i hh
      rw [show (dnMsg E k s).ix = E.ix from rfl, show (dnMsg E k s).sub = E.sub from rfl, h2, h3]
      have hs : s = true := hh.2.1
      subst hs
      exact hf
    · exact h1
  constructor
  · unfold recvS
    rw [if_neg (by simp [dnMsg]), if_pos (show (dnMsg E k s).kind = 2 from rfl)]
    unfold downS
    rw [if_neg (by rw [hd]; simp), if_neg (by simp [dnMsg])]
    rw [show (dnMsg E k s).ix = E.ix from rfl, show (dnMsg E k s).sub = E.sub from rfl, h2, h3]
    cases s <;> rfl
  · unfold recvO
    rw [if_neg (by simp [dnMsg]), if_pos (show (dnMsg E k s).kind = 2 from rfl)]
    unfold downO
    rw [if_neg (by rw [hd]; simp), if_neg (by simp [dnMsg])]
    rfl
theorem tk_code (E : Ent) (sz : Int) (b d : List UInt8) (tg la : Bool) (h1 : ((b ++ d).length : Int) ≤ mostE E) (h2 : sz = -1 ∨ ((b ++ d).length : Int) ≤ sz) (h3 : la = true → sz = -1 ∨ ((b ++ d).length : Int) = sz) : pcode (tkS E sz b tg) (dsMsg tg la d) = 0 := by
  unfold pcode
  rw [if_neg (by simp [tkS, dsMsg]), if_neg, if_neg]
  · rintro ⟨ha, hb, hc⟩
    have ha : la = true := ha
    have hb : sz ≠ -1 := hb
    rcases h3 ha with h | h
    · exact hb h
    · exact hc h
  · rintro (h | ⟨ha, hb⟩)
    · have h : mostE E < ((b ++ d).length : Int) := h
      omega
    · have ha : sz ≠ -1 := ha
      have hb : sz < ((b ++ d).length : Int) := hb
      rcases h2 with h | h
      · exact ha h
      · omega
theorem dn_more (L : List Ent) (V : List (List UInt8)) (E : Ent) (sz : Int) (b d : List UInt8) (tg : Bool) (h1 : ((b ++ d).length : Int) ≤ mostE E) (h2 : sz = -1 ∨ ((b ++ d).length : Int) ≤ sz) : recvS L V (tkS E sz b tg) (dsMsg tg false d) = tkS E sz (b ++ d) (!tg) ∧ recvO L V (tkS E sz b tg) (dsMsg tg false d) = outM (okM 13 0 0 tg) := by
  have hp := tk_code E sz b d tg false h1 h2 (by simp)
  constructor
  · unfold recvS
    rw [if_neg (by simp [dsMsg]), if_neg (by simp [dsMsg]), if_neg (by simp [dsMsg]), if_pos ⟨rfl, rfl⟩]
    unfold partS
    rw [if_neg (by simp [tkS, dsMsg]), if_neg (by rw [hp]; simp), if_neg (by simp [dsMsg])]
    rfl
  · unfold recvO
    rw [if_neg (by simp [dsMsg]), if_neg (by simp [dsMsg]), if_neg (by simp [dsMsg]), if_pos ⟨rfl, rfl⟩]
    unfold partO
    rw [if_neg (by rw [hp]; simp), if_neg (by simp [dsMsg])]
    rfl
theorem dn_last (L : List Ent) (V : List (List UInt8)) (E : Ent) (sz : Int) (b d : List UInt8) (tg : Bool) (h1 : ((b ++ d).length : Int) ≤ mostE E) (h2 : sz = -1 ∨ ((b ++ d).length : Int) = sz) : recvS L V (tkS E sz b tg) (dsMsg tg true d) = wtS E sz (b ++ d) tg ∧ recvO L V (tkS E sz b tg) (dsMsg tg true d) = ⟨[], true, E.ix, E.sub, b ++ d⟩ := by
  have hp := tk_code E sz b d tg true h1 (h2.imp id (fun h => by omega)) (fun _ => h2)
  constructor
  · unfold recvS
    rw [if_neg (by simp [dsMsg]), if_neg (by simp [dsMsg]), if_neg (by simp [dsMsg]), if_pos ⟨rfl, rfl⟩]
    unfold partS
    rw [if_neg (by simp [tkS, dsMsg]), if_neg (by rw [hp]; simp), if_pos (show (dsMsg tg true d).la = true from rfl)]
    rfl
  · unfold recvO
    rw [if_neg (by simp [dsMsg]), if_neg (by simp [dsMsg]), if_neg (by simp [dsMsg]), if_pos ⟨rfl, rfl⟩]
    unfold partO
    rw [if_neg (by rw [hp]; simp), if_pos (show (dsMsg tg true d).la = true from rfl)]
    rfl
end Go.Proofs.Ytimdmhhgomfijaa
