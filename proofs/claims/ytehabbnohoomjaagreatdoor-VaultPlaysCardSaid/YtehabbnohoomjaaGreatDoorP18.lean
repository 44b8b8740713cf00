/- None -/
import Derived.Test.YtehabbnohoomjaaGreatDoorP17
namespace Go.Proofs.YtehabbnohoomjaaGreatDoor
set_option linter.unusedVariables false
set_option linter.unusedSimpArgs false
set_option linter.unnecessarySimpa false
section
section
open Go.RowKit
set_option maxRecDepth 20000
set_option maxHeartbeats 4000000
def tornF (S:FS):FS×Bool:=if S.ahead=0 then ({ S with ahead:= -1,off:=true },true) else ({ S with ahead:=decA S.ahead,ops:=S.ops+1 },false)
def oneF (S:FS) (k:Nat) (x:UInt8):FS×Int:=if S.ahead=0 then ({ S with b:=S.b.set k (tornB (S.b.getD k 0) x S.mask),ahead:= -1,off:=true },7) else ({ S with b:=S.b.set k (S.b.getD k 0 &&& x),ahead:=decA S.ahead,ops:=S.ops+1 },0)
theorem zj9 (S:FS) (k:Nat) (x:UInt8) (bs:List UInt8):progF S k (x :: bs)=if (oneF S k x).2=0 then progF (oneF S k x).1 (k+1) bs else oneF S k x:=by
 rw[progF]
 unfold oneF
 by_cases h:S.ahead=0
 · rw[if_pos h,if_pos h,if_neg (show ¬ ((7:Int)=0) by decide)]
 · rw[if_neg h,if_neg h,if_pos rfl]
theorem zka (q:FP) (S:FS) (w:World) (hD:RF w q S) (hops:S.ops < 4611686018427387904) :
 Calls Tryz.prog 205 #[.pointer (some ⟨q.p,0,none⟩)] w fun e w'=>e= .returned (.bool (tornF S).2)∧ RF w' q (tornF S).1∧zcj (fun g=>g=q.p) w w':=by
 have HD:=zak hD
 obtain⟨⟨-,-,-,c3,c4,-,c6⟩,hfr⟩:= hD.c
 have f3:=hfr 3
 have f4:=hfr 4
 have f6:=hfr 6
 have ha1:=hD.fit.ah1
 have ha2:=hD.fit.ah2
 obtain⟨ah,hah⟩:∃ a,a=S.ahead:=⟨_,rfl⟩
 rw[← hah] at c4 ha1 ha2
 have HF:=zak hD.fit
 have HA:=zak hah
 clear hD hfr hah
 by_cases h0:ah=0
 · subst h0
   have HE:Hid (tornF S=({ S with ahead:= -1,off:=true },true)):= zak (by unfold tornF;rw[if_pos HA.out.symm])
   rw[HE.out]
   go_enter Tryz.func205,Tryz.ntmps205
   go_wp2_with fail
   go_ret
   exact⟨rfl,RF.reblk HD.out (zhe _ _ _ _) (zhz (zhz HD.out.blk 4 _) 3 _) rfl rfl (zho HF.out rfl rfl rfl rfl (.inr (.inr rfl))),zhe _ _ _ _⟩
 · have HE:Hid (tornF S=({ S with ahead:=decA ah,ops:=S.ops+1 },false)):= zak (by unfold tornF;rw[if_neg (by rw[← HA.out];exact h0),HA.out])
   rw[HE.out]
   by_cases hp:0 < ah
   · have HDA:=zak (show decA ah=ah - 1 by unfold decA;rw[if_pos hp])
     rw[HDA.out]
     go_enter Tryz.func205,Tryz.ntmps205
     go_wp2_with fail
     go_ret
     exact⟨rfl,RF.reblk HD.out (zhe _ _ _ _) (zhz (zhz HD.out.blk 4 _) 6 _) rfl rfl (zho HF.out rfl rfl rfl rfl (.inr (.inl (by rw[← HA.out,HDA.out])))),zhe _ _ _ _⟩
   · have HDA:=zak (show decA ah=ah by unfold decA;rw[if_neg hp])
     rw[HDA.out]
     go_enter Tryz.func205,Tryz.ntmps205
     go_wp2_with fail
     go_ret
     refine⟨rfl,?_,zhd _ _⟩
     have:=HA.out
     subst this
     exact RF.reblk HD.out (zhd _ _) (zhz HD.out.blk 6 _) rfl rfl (zho HF.out rfl rfl rfl rfl (.inl rfl))
theorem zkb (c x:UInt8) (k:Nat):(c &&& x).toNat / 2 ^ k % 2=(c.toNat / 2 ^ k % 2) * (x.toNat / 2 ^ k % 2):= by
 rw[UInt8.toNat_and,← Nat.toNat_testBit,← Nat.toNat_testBit,← Nat.toNat_testBit,Nat.testBit_and]
 cases c.toNat.testBit k<;>cases x.toNat.testBit k<;>rfl
theorem zkc (c x:UInt8) (k:Nat):(c ||| x).toNat / 2 ^ k % 2=max (c.toNat / 2 ^ k % 2) (x.toNat / 2 ^ k % 2):= by
 rw[UInt8.toNat_or,← Nat.toNat_testBit,← Nat.toNat_testBit,← Nat.toNat_testBit,Nat.testBit_or]
 cases c.toNat.testBit k<;>cases x.toNat.testBit k<;>rfl
theorem zkd (a k:Nat) (ha:a < 256) (hk:k < 8):(255 - a) / 2 ^ k % 2=1 - a / 2 ^ k % 2:=by
 rcases (show k=0∨k=1∨k=2∨k=3∨k=4∨k=5∨k=6∨k=7 by omega) with rfl | rfl | rfl | rfl | rfl | rfl | rfl | rfl<;>omega
theorem zke (c x:UInt8) (k:Nat):(x.toNat / 2 ^ k % 2=0→(c &&& x).toNat / 2 ^ k % 2=0)∧ (x.toNat / 2 ^ k % 2=1→(c &&& x).toNat / 2 ^ k % 2=c.toNat / 2 ^ k % 2)∧ (c.toNat / 2 ^ k % 2=0→(c &&& x).toNat / 2 ^ k % 2=0):= by
 rw[zkb]
 refine⟨fun h=>by rw[h];omega,fun h=>by rw[h];omega,fun h=>by rw[h];omega⟩
theorem zkf (c x:UInt8) (m k:Nat) (hk:k < 8):(x.toNat / 2 ^ k % 2=0→m % 256 / 2 ^ k % 2=1→(tornB c x m).toNat / 2 ^ k % 2=0)∧ (x.toNat / 2 ^ k % 2=1→(tornB c x m).toNat / 2 ^ k % 2=c.toNat / 2 ^ k % 2)∧ (m % 256 / 2 ^ k % 2=0→(tornB c x m).toNat / 2 ^ k % 2=c.toNat / 2 ^ k % 2)∧ (c.toNat / 2 ^ k % 2=0→(tornB c x m).toNat / 2 ^ k % 2=0):= by
 unfold tornB
 have h1:(~~~ (UInt8.ofNat m)).toNat / 2 ^ k % 2=1 - m % 256 / 2 ^ k % 2:=by
  rw[UInt8.toNat_not,UInt8.toNat_ofNat']
  exact zkd (m % 256) k (by omega) hk
 have h3:m % 256 / 2 ^ k % 2≤1:=by omega
 rw[zkb,zkc,h1]
 refine⟨fun h h2=>by rw[h,h2];simp,fun h=>by rw[h];rw[Nat.max_eq_left (by omega)];omega,fun h=>by rw[h];rw[Nat.max_eq_right (by omega)];omega,fun h=>by rw[h];omega⟩
theorem zkg (z:Int) (xn cn yn:Nat) (hz:z=((yn % 1+1 * (cn / 1):Nat):Int)) (hb:(xn / 1 % 2=0→yn / 1 % 2=0)∧ (xn / 1 % 2=1→yn / 1 % 2=cn / 1 % 2)∧ (cn / 1 % 2=0→yn / 1 % 2=0)) (h0:0≤z) (h1:z < 256) (hcl:cn < 256) (hyl:yn < 256) :
 ∀ z2:Int,((xn:Int) / 1 % 2=0∧z / 1 % 2=1→z2=z - 1)→ (¬ ((xn:Int) / 1 % 2=0∧z / 1 % 2=1)→ z2=z)→ 0≤z2∧z2 < 256∧z2=((yn % 2+2 * (cn / 2):Nat):Int):= by
 intro z2 q1 q2
 omega
theorem zkh (z:Int) (xn cn yn mb:Nat) (xb zb mbb:Int) (hz:z=((yn % 1+1 * (cn / 1):Nat):Int)) (hb:(xn / 1 % 2=0→mb / 1 % 2=1→yn / 1 % 2=0)∧ (xn / 1 % 2=1→yn / 1 % 2=cn / 1 % 2)∧ (mb / 1 % 2=0→yn / 1 % 2=cn / 1 % 2)∧ (cn / 1 % 2=0→yn / 1 % 2=0)) (h0:0≤z) (h1:z < 256) (hcl:cn < 256) (hyl:yn < 256) (e1:(xn:Int) / 1 % 2=xb) (e2:z / 1 % 2=zb) (e3:(mb:Int) / 1 % 2=mbb) :
 ∀ z2:Int,(xb=0∧zb=1∧mbb=1→z2=z - 1)→ (¬ (xb=0∧zb=1∧mbb=1)→ z2=z)→ 0≤z2∧z2 < 256∧z2=((yn % 2+2 * (cn / 2):Nat):Int):= by
 intro z2 q1 q2
 subst e1 e2 e3
 omega
theorem zki (z:Int) (xn cn yn:Nat) (hz:z=((yn % 2+2 * (cn / 2):Nat):Int)) (hb:(xn / 2 % 2=0→yn / 2 % 2=0)∧ (xn / 2 % 2=1→yn / 2 % 2=cn / 2 % 2)∧ (cn / 2 % 2=0→yn / 2 % 2=0)) (h0:0≤z) (h1:z < 256) (hcl:cn < 256) (hyl:yn < 256) :
 ∀ z2:Int,((xn:Int) / 2 % 2=0∧z / 2 % 2=1→z2=z - 2)→ (¬ ((xn:Int) / 2 % 2=0∧z / 2 % 2=1)→ z2=z)→ 0≤z2∧z2 < 256∧z2=((yn % 4+4 * (cn / 4):Nat):Int):= by
 intro z2 q1 q2
 omega
theorem zkj (z:Int) (xn cn yn mb:Nat) (xb zb mbb:Int) (hz:z=((yn % 2+2 * (cn / 2):Nat):Int)) (hb:(xn / 2 % 2=0→mb / 2 % 2=1→yn / 2 % 2=0)∧ (xn / 2 % 2=1→yn / 2 % 2=cn / 2 % 2)∧ (mb / 2 % 2=0→yn / 2 % 2=cn / 2 % 2)∧ (cn / 2 % 2=0→yn / 2 % 2=0)) (h0:0≤z) (h1:z < 256) (hcl:cn < 256) (hyl:yn < 256) (e1:(xn:Int) / 2 % 2=xb) (e2:z / 2 % 2=zb) (e3:(mb:Int) / 2 % 2=mbb) :
 ∀ z2:Int,(xb=0∧zb=1∧mbb=1→z2=z - 2)→ (¬ (xb=0∧zb=1∧mbb=1)→ z2=z)→ 0≤z2∧z2 < 256∧z2=((yn % 4+4 * (cn / 4):Nat):Int):= by
 intro z2 q1 q2
 subst e1 e2 e3
 omega
theorem zkk (z:Int) (xn cn yn:Nat) (hz:z=((yn % 4+4 * (cn / 4):Nat):Int)) (hb:(xn / 4 % 2=0→yn / 4 % 2=0)∧ (xn / 4 % 2=1→yn / 4 % 2=cn / 4 % 2)∧ (cn / 4 % 2=0→yn / 4 % 2=0)) (h0:0≤z) (h1:z < 256) (hcl:cn < 256) (hyl:yn < 256) :
 ∀ z2:Int,((xn:Int) / 4 % 2=0∧z / 4 % 2=1→z2=z - 4)→ (¬ ((xn:Int) / 4 % 2=0∧z / 4 % 2=1)→ z2=z)→ 0≤z2∧z2 < 256∧z2=((yn % 8+8 * (cn / 8):Nat):Int):= by
 intro z2 q1 q2
 omega
theorem zkl (z:Int) (xn cn yn mb:Nat) (xb zb mbb:Int) (hz:z=((yn % 4+4 * (cn / 4):Nat):Int)) (hb:(xn / 4 % 2=0→mb / 4 % 2=1→yn / 4 % 2=0)∧ (xn / 4 % 2=1→yn / 4 % 2=cn / 4 % 2)∧ (mb / 4 % 2=0→yn / 4 % 2=cn / 4 % 2)∧ (cn / 4 % 2=0→yn / 4 % 2=0)) (h0:0≤z) (h1:z < 256) (hcl:cn < 256) (hyl:yn < 256) (e1:(xn:Int) / 4 % 2=xb) (e2:z / 4 % 2=zb) (e3:(mb:Int) / 4 % 2=mbb) :
 ∀ z2:Int,(xb=0∧zb=1∧mbb=1→z2=z - 4)→ (¬ (xb=0∧zb=1∧mbb=1)→ z2=z)→ 0≤z2∧z2 < 256∧z2=((yn % 8+8 * (cn / 8):Nat):Int):= by
 intro z2 q1 q2
 subst e1 e2 e3
 omega
theorem zkm (z:Int) (xn cn yn:Nat) (hz:z=((yn % 8+8 * (cn / 8):Nat):Int)) (hb:(xn / 8 % 2=0→yn / 8 % 2=0)∧ (xn / 8 % 2=1→yn / 8 % 2=cn / 8 % 2)∧ (cn / 8 % 2=0→yn / 8 % 2=0)) (h0:0≤z) (h1:z < 256) (hcl:cn < 256) (hyl:yn < 256) :
 ∀ z2:Int,((xn:Int) / 8 % 2=0∧z / 8 % 2=1→z2=z - 8)→ (¬ ((xn:Int) / 8 % 2=0∧z / 8 % 2=1)→ z2=z)→ 0≤z2∧z2 < 256∧z2=((yn % 16+16 * (cn / 16):Nat):Int):= by
 intro z2 q1 q2
 omega
theorem zkn (z:Int) (xn cn yn mb:Nat) (xb zb mbb:Int) (hz:z=((yn % 8+8 * (cn / 8):Nat):Int)) (hb:(xn / 8 % 2=0→mb / 8 % 2=1→yn / 8 % 2=0)∧ (xn / 8 % 2=1→yn / 8 % 2=cn / 8 % 2)∧ (mb / 8 % 2=0→yn / 8 % 2=cn / 8 % 2)∧ (cn / 8 % 2=0→yn / 8 % 2=0)) (h0:0≤z) (h1:z < 256) (hcl:cn < 256) (hyl:yn < 256) (e1:(xn:Int) / 8 % 2=xb) (e2:z / 8 % 2=zb) (e3:(mb:Int) / 8 % 2=mbb) :
 ∀ z2:Int,(xb=0∧zb=1∧mbb=1→z2=z - 8)→ (¬ (xb=0∧zb=1∧mbb=1)→ z2=z)→ 0≤z2∧z2 < 256∧z2=((yn % 16+16 * (cn / 16):Nat):Int):= by
 intro z2 q1 q2
 subst e1 e2 e3
 omega
theorem zko (z:Int) (xn cn yn:Nat) (hz:z=((yn % 16+16 * (cn / 16):Nat):Int)) (hb:(xn / 16 % 2=0→yn / 16 % 2=0)∧ (xn / 16 % 2=1→yn / 16 % 2=cn / 16 % 2)∧ (cn / 16 % 2=0→yn / 16 % 2=0)) (h0:0≤z) (h1:z < 256) (hcl:cn < 256) (hyl:yn < 256) :
 ∀ z2:Int,((xn:Int) / 16 % 2=0∧z / 16 % 2=1→z2=z - 16)→ (¬ ((xn:Int) / 16 % 2=0∧z / 16 % 2=1)→ z2=z)→ 0≤z2∧z2 < 256∧z2=((yn % 32+32 * (cn / 32):Nat):Int):= by
 intro z2 q1 q2
 omega
theorem zkp (z:Int) (xn cn yn mb:Nat) (xb zb mbb:Int) (hz:z=((yn % 16+16 * (cn / 16):Nat):Int)) (hb:(xn / 16 % 2=0→mb / 16 % 2=1→yn / 16 % 2=0)∧ (xn / 16 % 2=1→yn / 16 % 2=cn / 16 % 2)∧ (mb / 16 % 2=0→yn / 16 % 2=cn / 16 % 2)∧ (cn / 16 % 2=0→yn / 16 % 2=0)) (h0:0≤z) (h1:z < 256) (hcl:cn < 256) (hyl:yn < 256) (e1:(xn:Int) / 16 % 2=xb) (e2:z / 16 % 2=zb) (e3:(mb:Int) / 16 % 2=mbb) :
 ∀ z2:Int,(xb=0∧zb=1∧mbb=1→z2=z - 16)→ (¬ (xb=0∧zb=1∧mbb=1)→ z2=z)→ 0≤z2∧z2 < 256∧z2=((yn % 32+32 * (cn / 32):Nat):Int):= by
 intro z2 q1 q2
 subst e1 e2 e3
 omega
theorem zkq (z:Int) (xn cn yn:Nat) (hz:z=((yn % 32+32 * (cn / 32):Nat):Int)) (hb:(xn / 32 % 2=0→yn / 32 % 2=0)∧ (xn / 32 % 2=1→yn / 32 % 2=cn / 32 % 2)∧ (cn / 32 % 2=0→yn / 32 % 2=0)) (h0:0≤z) (h1:z < 256) (hcl:cn < 256) (hyl:yn < 256) :
 ∀ z2:Int,((xn:Int) / 32 % 2=0∧z / 32 % 2=1→z2=z - 32)→ (¬ ((xn:Int) / 32 % 2=0∧z / 32 % 2=1)→ z2=z)→ 0≤z2∧z2 < 256∧z2=((yn % 64+64 * (cn / 64):Nat):Int):= by
 intro z2 q1 q2
 omega
theorem zkr (z:Int) (xn cn yn mb:Nat) (xb zb mbb:Int) (hz:z=((yn % 32+32 * (cn / 32):Nat):Int)) (hb:(xn / 32 % 2=0→mb / 32 % 2=1→yn / 32 % 2=0)∧ (xn / 32 % 2=1→yn / 32 % 2=cn / 32 % 2)∧ (mb / 32 % 2=0→yn / 32 % 2=cn / 32 % 2)∧ (cn / 32 % 2=0→yn / 32 % 2=0)) (h0:0≤z) (h1:z < 256) (hcl:cn < 256) (hyl:yn < 256) (e1:(xn:Int) / 32 % 2=xb) (e2:z / 32 % 2=zb) (e3:(mb:Int) / 32 % 2=mbb) :
 ∀ z2:Int,(xb=0∧zb=1∧mbb=1→z2=z - 32)→ (¬ (xb=0∧zb=1∧mbb=1)→ z2=z)→ 0≤z2∧z2 < 256∧z2=((yn % 64+64 * (cn / 64):Nat):Int):= by
 intro z2 q1 q2
 subst e1 e2 e3
 omega
theorem zks (z:Int) (xn cn yn:Nat) (hz:z=((yn % 64+64 * (cn / 64):Nat):Int)) (hb:(xn / 64 % 2=0→yn / 64 % 2=0)∧ (xn / 64 % 2=1→yn / 64 % 2=cn / 64 % 2)∧ (cn / 64 % 2=0→yn / 64 % 2=0)) (h0:0≤z) (h1:z < 256) (hcl:cn < 256) (hyl:yn < 256) :
 ∀ z2:Int,((xn:Int) / 64 % 2=0∧z / 64 % 2=1→z2=z - 64)→ (¬ ((xn:Int) / 64 % 2=0∧z / 64 % 2=1)→ z2=z)→ 0≤z2∧z2 < 256∧z2=((yn % 128+128 * (cn / 128):Nat):Int):= by
 intro z2 q1 q2
 omega
theorem zkt (z:Int) (xn cn yn mb:Nat) (xb zb mbb:Int) (hz:z=((yn % 64+64 * (cn / 64):Nat):Int)) (hb:(xn / 64 % 2=0→mb / 64 % 2=1→yn / 64 % 2=0)∧ (xn / 64 % 2=1→yn / 64 % 2=cn / 64 % 2)∧ (mb / 64 % 2=0→yn / 64 % 2=cn / 64 % 2)∧ (cn / 64 % 2=0→yn / 64 % 2=0)) (h0:0≤z) (h1:z < 256) (hcl:cn < 256) (hyl:yn < 256) (e1:(xn:Int) / 64 % 2=xb) (e2:z / 64 % 2=zb) (e3:(mb:Int) / 64 % 2=mbb) :
 ∀ z2:Int,(xb=0∧zb=1∧mbb=1→z2=z - 64)→ (¬ (xb=0∧zb=1∧mbb=1)→ z2=z)→ 0≤z2∧z2 < 256∧z2=((yn % 128+128 * (cn / 128):Nat):Int):= by
 intro z2 q1 q2
 subst e1 e2 e3
 omega
theorem zku (z:Int) (xn cn yn:Nat) (hz:z=((yn % 128+128 * (cn / 128):Nat):Int)) (hb:(xn / 128 % 2=0→yn / 128 % 2=0)∧ (xn / 128 % 2=1→yn / 128 % 2=cn / 128 % 2)∧ (cn / 128 % 2=0→yn / 128 % 2=0)) (h0:0≤z) (h1:z < 256) (hcl:cn < 256) (hyl:yn < 256) :
 ∀ z2:Int,((xn:Int) / 128 % 2=0∧z / 128 % 2=1→z2=z - 128)→ (¬ ((xn:Int) / 128 % 2=0∧z / 128 % 2=1)→ z2=z)→ 0≤z2∧z2 < 256∧z2=((yn % 256+256 * (cn / 256):Nat):Int):= by
 intro z2 q1 q2
 omega
theorem zkv (z:Int) (xn cn yn mb:Nat) (xb zb mbb:Int) (hz:z=((yn % 128+128 * (cn / 128):Nat):Int)) (hb:(xn / 128 % 2=0→mb / 128 % 2=1→yn / 128 % 2=0)∧ (xn / 128 % 2=1→yn / 128 % 2=cn / 128 % 2)∧ (mb / 128 % 2=0→yn / 128 % 2=cn / 128 % 2)∧ (cn / 128 % 2=0→yn / 128 % 2=0)) (h0:0≤z) (h1:z < 256) (hcl:cn < 256) (hyl:yn < 256) (e1:(xn:Int) / 128 % 2=xb) (e2:z / 128 % 2=zb) (e3:(mb:Int) / 128 % 2=mbb) :
 ∀ z2:Int,(xb=0∧zb=1∧mbb=1→z2=z - 128)→ (¬ (xb=0∧zb=1∧mbb=1)→ z2=z)→ 0≤z2∧z2 < 256∧z2=((yn % 256+256 * (cn / 256):Nat):Int):= by
 intro z2 q1 q2
 subst e1 e2 e3
 omega
theorem zkw (q:FP) (S:FS) (at_:Nat) (x:UInt8) (w:World) (hD:RF w q S) (hk:at_ < S.b.length) (hops:S.ops < 4611686018427387904) :
 Calls Tryz.prog 206 #[.pointer (some ⟨q.p,0,none⟩),.int .i64 (at_:Nat),.int .u8 (x.toNat:Nat)] w fun e w'=>e= .returned (.int .i64 (oneF S at_ x).2)∧ RF w' q (oneF S at_ x).1∧zcj q.F w w':=by
 have HT:=zak (zka q S w hD hops)
 have hx:=x.toNat_lt
 have hm:=hD.fit.mask
 have h8:S.b.length≤8192:=by have:=hD.fit.len;have:=hD.fit.wl8;omega
 obtain⟨y0,hy0⟩:∃ y,y=S.b.getD at_ 0:=⟨_,rfl⟩
 have HY:=zak hy0
 by_cases h0:S.ahead=0
 · have HTF:Hid (tornF S=({ S with ahead:= -1,off:=true },true)):= zak (by unfold tornF;rw[if_pos h0])
   have HOF:Hid (oneF S at_ x=({ S with b:=S.b.set at_ (tornB y0 x S.mask),ahead:= -1,off:=true },7)):= zak (by unfold oneF;rw[if_pos h0,← HY.out])
   rw[HTF.out] at HT
   rw[HOF.out]
   have HBT:=zak (fun k (hk:k < 8)=> zkf y0 x S.mask k hk)
   obtain⟨yr,hyr⟩:∃ n,n=(tornB y0 x S.mask):= ⟨_,rfl⟩
   have HS2:Hid (∀ W,RF W q ({ S with ahead:= -1,off:=true }:FS)→ RF (W.setCell ⟨q.gb,at_,none⟩ (.int .u8 (yr.toNat:Nat))) q { S with b:=S.b.set at_ (tornB y0 x S.mask),ahead:= -1,off:=true }):= zak (fun W h=>by
    have h2:=h.setB at_ yr
    rw[hyr] at h2 ⊢
    exact h2)
   obtain⟨S1,hS1⟩:∃ S1:FS,S1= { S with ahead:= -1,off:=true }:= ⟨_,rfl⟩
   have e1:S1.b=S.b:=by rw[hS1]
   have e2:S1.mask=S.mask:=by rw[hS1]
   rw[← hS1] at HT HS2
   rw[← hyr] at HBT
   obtain⟨S3,hS3⟩:∃ S3:FS,S3= { S with b:=S.b.set at_ (tornB y0 x S.mask),ahead:= -1,off:=true }:= ⟨_,rfl⟩
   rw[← hS3] at HS2 ⊢
   obtain⟨mk,hmk⟩:∃ m,m=S.mask:=⟨_,rfl⟩
   rw[← hmk] at HBT e2 hm
   obtain⟨bl,hbl⟩:∃ n,n=S.b.length:=⟨_,rfl⟩
   rw[← hbl] at hk h8
   have hb1:S1.b.length=bl:=by rw[e1,hbl]
   have HBL:=zak hb1
   have HG:=zak (show S1.b.getD at_ 0=y0 by rw[e1];exact hy0.symm)
   obtain⟨xn,hxn⟩:∃ n,n=x.toNat:=⟨_,rfl⟩
   obtain⟨cn,hcn⟩:∃ n,n=y0.toNat:=⟨_,rfl⟩
   obtain⟨yn,hyn⟩:∃ n,n=yr.toNat:=⟨_,rfl⟩
   have hcl:cn < 256:=by rw[hcn];exact y0.toNat_lt
   have hyl:yn < 256:=by rw[hyn];exact yr.toNat_lt
   rw[← hxn] at HBT hx ⊢
   rw[← hcn,← hyn] at HBT
   have HCN:=zak hcn
   have HYN:=zak hyn
   have HE2:=zak e2
   have hml:mk≤4294967295:=by unfold U32 at hm;omega
   clear hD hS1 hS3 hmk hbl hyr hxn hcn hyn e1 e2 hb1 hops HTF HOF h0 hy0 hm
   go_enter Tryz.func206,Tryz.ntmps206
   go_wp2_with fail
   refine HT.out.mono ?_
   rintro e w1 ⟨rfl,hF1,hO1⟩
   have HF1:=zak hF1
   have HO1:=zak hO1
   obtain⟨⟨c0,-,-,-,-,c5,-⟩,-⟩:= hF1.c
   rw[HBL.out] at c0
   rw[HE2.out] at c5
   obtain⟨cb,fb⟩:= hF1.byte (j:=at_) (by rw[HBL.out];exact hk)
   rw[HG.out,← HCN.out] at cb
   obtain⟨i1,i2,i3⟩:= zbr hk
   obtain⟨mb,hmb⟩:∃ m:Nat,m=mk % 256:=⟨_,rfl⟩
   have hmbl:mb < 256:=by omega
   have hmi:(mk:Int) % 256=(mb:Int):= by omega
   rw[← hmb] at HBT
   clear hF1 hO1 hmb
   go_wp2_with fail
   go_loop [8,9,10,11] (fun n p i _=> ∃ (k:Nat) (z:Int),k≤8∧i= .int .i64 (k:Nat)∧ p= .int .u8 (((2 ^ k % 256:Nat)):Int)∧ n= .int .u8 z∧0≤z∧z < 256∧z=((yn % 2 ^ k+2 ^ k * (cn / 2 ^ k):Nat):Int)) (fun _ _ i _=>8 - (intOf i).toNat)
   case atStart=>exact⟨0,(cn:Int),by omega,rfl,rfl,rfl,by omega,by omega,by omega⟩
   case round=>
    obtain⟨k,z,hk8,rfl,rfl,rfl,h0,h1,hz⟩:= hrel
    by_cases hlt:k < 8
    · have hx1:(0:Int)≤ (xn:Int):= by omega
      have hx2:(xn:Int) < 256:=by omega
      have hb:=HBT.out k hlt
      rcases (show k=0∨k=1∨k=2∨k=3∨k=4∨k=5∨k=6∨k=7 by omega) with rfl | rfl | rfl | rfl | rfl | rfl | rfl | rfl
      · simp only[Nat.reducePow,Nat.reduceMod] at hz hb ⊢
        have HZB:=zak (And.intro hz hb)
        clear hz hb
        have FN:=zak (zkh z xn cn yn mb _ _ _ HZB.out.1 HZB.out.2 h0 h1 hcl hyl rfl rfl rfl)
        by_cases hmq:(mb:Int) % 2=1
        · have hq:((mb:Int) % 2 == 1)=true:=by rw[hmq];rfl
          go_wp2_with fail
          all_goals
           go_round
           case rel=>exact⟨1,_,by omega,by go_num,by rfl,rfl,FN.out _ (fun h=>by omega) (fun h=>by omega)⟩
           case measure=>simp[intOf]
        · have hq:((mb:Int) % 2 == 1)=false:=beq_eq_false_iff_ne.2 hmq
          go_wp2_with fail
          all_goals
           go_round
           case rel=>exact⟨1,_,by omega,by go_num,by rfl,rfl,FN.out _ (fun h=>by omega) (fun h=>by omega)⟩
           case measure=>simp[intOf]
      · simp only[Nat.reducePow,Nat.reduceMod] at hz hb ⊢
        have HZB:=zak (And.intro hz hb)
        clear hz hb
        have FN:=zak (zkj z xn cn yn mb _ _ _ HZB.out.1 HZB.out.2 h0 h1 hcl hyl rfl rfl rfl)
        by_cases hmq:(mb:Int) / 2 % 2=1
        · have hq:((mb:Int) / 2 % 2 == 1)=true:=by rw[hmq];rfl
          go_wp2_with fail
          all_goals
           go_round
           case rel=>exact⟨2,_,by omega,by go_num,by rfl,rfl,FN.out _ (fun h=>by omega) (fun h=>by omega)⟩
           case measure=>simp[intOf]
        · have hq:((mb:Int) / 2 % 2 == 1)=false:=beq_eq_false_iff_ne.2 hmq
          go_wp2_with fail
          all_goals
           go_round
           case rel=>exact⟨2,_,by omega,by go_num,by rfl,rfl,FN.out _ (fun h=>by omega) (fun h=>by omega)⟩
           case measure=>simp[intOf]
      · simp only[Nat.reducePow,Nat.reduceMod] at hz hb ⊢
        have HZB:=zak (And.intro hz hb)
        clear hz hb
        have FN:=zak (zkl z xn cn yn mb _ _ _ HZB.out.1 HZB.out.2 h0 h1 hcl hyl rfl rfl rfl)
        by_cases hmq:(mb:Int) / 4 % 2=1
        · have hq:((mb:Int) / 4 % 2 == 1)=true:=by rw[hmq];rfl
          go_wp2_with fail
          all_goals
           go_round
           case rel=>exact⟨3,_,by omega,by go_num,by rfl,rfl,FN.out _ (fun h=>by omega) (fun h=>by omega)⟩
           case measure=>simp[intOf]
        · have hq:((mb:Int) / 4 % 2 == 1)=false:=beq_eq_false_iff_ne.2 hmq
          go_wp2_with fail
          all_goals
           go_round
           case rel=>exact⟨3,_,by omega,by go_num,by rfl,rfl,FN.out _ (fun h=>by omega) (fun h=>by omega)⟩
           case measure=>simp[intOf]
      · simp only[Nat.reducePow,Nat.reduceMod] at hz hb ⊢
        have HZB:=zak (And.intro hz hb)
        clear hz hb
        have FN:=zak (zkn z xn cn yn mb _ _ _ HZB.out.1 HZB.out.2 h0 h1 hcl hyl rfl rfl rfl)
        by_cases hmq:(mb:Int) / 8 % 2=1
        · have hq:((mb:Int) / 8 % 2 == 1)=true:=by rw[hmq];rfl
          go_wp2_with fail
          all_goals
           go_round
           case rel=>exact⟨4,_,by omega,by go_num,by rfl,rfl,FN.out _ (fun h=>by omega) (fun h=>by omega)⟩
           case measure=>simp[intOf]
        · have hq:((mb:Int) / 8 % 2 == 1)=false:=beq_eq_false_iff_ne.2 hmq
          go_wp2_with fail
          all_goals
           go_round
           case rel=>exact⟨4,_,by omega,by go_num,by rfl,rfl,FN.out _ (fun h=>by omega) (fun h=>by omega)⟩
           case measure=>simp[intOf]
      · simp only[Nat.reducePow,Nat.reduceMod] at hz hb ⊢
        have HZB:=zak (And.intro hz hb)
        clear hz hb
        have FN:=zak (zkp z xn cn yn mb _ _ _ HZB.out.1 HZB.out.2 h0 h1 hcl hyl rfl rfl rfl)
        by_cases hmq:(mb:Int) / 16 % 2=1
        · have hq:((mb:Int) / 16 % 2 == 1)=true:=by rw[hmq];rfl
          go_wp2_with fail
          all_goals
           go_round
           case rel=>exact⟨5,_,by omega,by go_num,by rfl,rfl,FN.out _ (fun h=>by omega) (fun h=>by omega)⟩
           case measure=>simp[intOf]
        · have hq:((mb:Int) / 16 % 2 == 1)=false:=beq_eq_false_iff_ne.2 hmq
          go_wp2_with fail
          all_goals
           go_round
           case rel=>exact⟨5,_,by omega,by go_num,by rfl,rfl,FN.out _ (fun h=>by omega) (fun h=>by omega)⟩
           case measure=>simp[intOf]
      · simp only[Nat.reducePow,Nat.reduceMod] at hz hb ⊢
        have HZB:=zak (And.intro hz hb)
        clear hz hb
        have FN:=zak (zkr z xn cn yn mb _ _ _ HZB.out.1 HZB.out.2 h0 h1 hcl hyl rfl rfl rfl)
        by_cases hmq:(mb:Int) / 32 % 2=1
        · have hq:((mb:Int) / 32 % 2 == 1)=true:=by rw[hmq];rfl
          go_wp2_with fail
          all_goals
           go_round
           case rel=>exact⟨6,_,by omega,by go_num,by rfl,rfl,FN.out _ (fun h=>by omega) (fun h=>by omega)⟩
           case measure=>simp[intOf]
        · have hq:((mb:Int) / 32 % 2 == 1)=false:=beq_eq_false_iff_ne.2 hmq
          go_wp2_with fail
          all_goals
           go_round
           case rel=>exact⟨6,_,by omega,by go_num,by rfl,rfl,FN.out _ (fun h=>by omega) (fun h=>by omega)⟩
           case measure=>simp[intOf]
      · simp only[Nat.reducePow,Nat.reduceMod] at hz hb ⊢
        have HZB:=zak (And.intro hz hb)
        clear hz hb
        have FN:=zak (zkt z xn cn yn mb _ _ _ HZB.out.1 HZB.out.2 h0 h1 hcl hyl rfl rfl rfl)
        by_cases hmq:(mb:Int) / 64 % 2=1
        · have hq:((mb:Int) / 64 % 2 == 1)=true:=by rw[hmq];rfl
          go_wp2_with fail
          all_goals
           go_round
           case rel=>exact⟨7,_,by omega,by go_num,by rfl,rfl,FN.out _ (fun h=>by omega) (fun h=>by omega)⟩
           case measure=>simp[intOf]
        · have hq:((mb:Int) / 64 % 2 == 1)=false:=beq_eq_false_iff_ne.2 hmq
          go_wp2_with fail
          all_goals
           go_round
           case rel=>exact⟨7,_,by omega,by go_num,by rfl,rfl,FN.out _ (fun h=>by omega) (fun h=>by omega)⟩
           case measure=>simp[intOf]
      · simp only[Nat.reducePow,Nat.reduceMod] at hz hb ⊢
        have HZB:=zak (And.intro hz hb)
        clear hz hb
        have FN:=zak (zkv z xn cn yn mb _ _ _ HZB.out.1 HZB.out.2 h0 h1 hcl hyl rfl rfl rfl)
        by_cases hmq:(mb:Int) / 128 % 2=1
        · have hq:((mb:Int) / 128 % 2 == 1)=true:=by rw[hmq];rfl
          go_wp2_with fail
          all_goals
           go_round
           case rel=>exact⟨8,_,by omega,by go_num,by rfl,rfl,FN.out _ (fun h=>by omega) (fun h=>by omega)⟩
           case measure=>simp[intOf]
        · have hq:((mb:Int) / 128 % 2 == 1)=false:=beq_eq_false_iff_ne.2 hmq
          go_wp2_with fail
          all_goals
           go_round
           case rel=>exact⟨8,_,by omega,by go_num,by rfl,rfl,FN.out _ (fun h=>by omega) (fun h=>by omega)⟩
           case measure=>simp[intOf]
    · obtain rfl:k=8:=by omega
      have hzy:z=(yr.toNat:Nat):= by have:=HYN.out;omega
      subst hzy
      have HSN:=zak (HS2.out _ HF1.out)
      have HON:Hid (zcj q.F w (w1.setCell ⟨q.gb,at_,none⟩ (.int .u8 (yr.toNat:Nat)))):= zak ((HO1.out.mono (fun _ _ h=> .inl h)).set _ (.inr (.inl rfl)) _)
      clear hz h0 h1
      go_wp2_with fail
      go_ret
      exact⟨rfl,HSN.out,HON.out⟩
 · have HTF:Hid (tornF S=({ S with ahead:=decA S.ahead,ops:=S.ops+1 },false)):= zak (by unfold tornF;rw[if_neg h0])
   have HOF:Hid (oneF S at_ x=({ S with b:=S.b.set at_ (y0 &&& x),ahead:=decA S.ahead,ops:=S.ops+1 },0)):= zak (by unfold oneF;rw[if_neg h0,← HY.out])
   rw[HTF.out] at HT
   rw[HOF.out]
   have HBT:=zak (fun k (hk:k < 8)=> zke y0 x k)
   obtain⟨yr,hyr⟩:∃ n,n=(y0 &&& x):= ⟨_,rfl⟩
   have HS2:Hid (∀ W,RF W q ({ S with ahead:=decA S.ahead,ops:=S.ops+1 }:FS)→ RF (W.setCell ⟨q.gb,at_,none⟩ (.int .u8 (yr.toNat:Nat))) q { S with b:=S.b.set at_ (y0 &&& x),ahead:=decA S.ahead,ops:=S.ops+1 }):= zak (fun W h=>by
    have h2:=h.setB at_ yr
    rw[hyr] at h2 ⊢
    exact h2)
   obtain⟨S1,hS1⟩:∃ S1:FS,S1= { S with ahead:=decA S.ahead,ops:=S.ops+1 }:= ⟨_,rfl⟩
   have e1:S1.b=S.b:=by rw[hS1]
   have e2:S1.mask=S.mask:=by rw[hS1]
   rw[← hS1] at HT HS2
   rw[← hyr] at HBT
   obtain⟨S3,hS3⟩:∃ S3:FS,S3= { S with b:=S.b.set at_ (y0 &&& x),ahead:=decA S.ahead,ops:=S.ops+1 }:= ⟨_,rfl⟩
   rw[← hS3] at HS2 ⊢
   obtain⟨mk,hmk⟩:∃ m,m=S.mask:=⟨_,rfl⟩
   rw[← hmk] at e2 hm
   obtain⟨bl,hbl⟩:∃ n,n=S.b.length:=⟨_,rfl⟩
   rw[← hbl] at hk h8
   have hb1:S1.b.length=bl:=by rw[e1,hbl]
   have HBL:=zak hb1
   have HG:=zak (show S1.b.getD at_ 0=y0 by rw[e1];exact hy0.symm)
   obtain⟨xn,hxn⟩:∃ n,n=x.toNat:=⟨_,rfl⟩
   obtain⟨cn,hcn⟩:∃ n,n=y0.toNat:=⟨_,rfl⟩
   obtain⟨yn,hyn⟩:∃ n,n=yr.toNat:=⟨_,rfl⟩
   have hcl:cn < 256:=by rw[hcn];exact y0.toNat_lt
   have hyl:yn < 256:=by rw[hyn];exact yr.toNat_lt
   rw[← hxn] at HBT hx ⊢
   rw[← hcn,← hyn] at HBT
   have HCN:=zak hcn
   have HYN:=zak hyn
   have HE2:=zak e2
   have hml:mk≤4294967295:=by unfold U32 at hm;omega
   clear hD hS1 hS3 hmk hbl hyr hxn hcn hyn e1 e2 hb1 hops HTF HOF h0 hy0 hm
   go_enter Tryz.func206,Tryz.ntmps206
   go_wp2_with fail
   refine HT.out.mono ?_
   rintro e w1 ⟨rfl,hF1,hO1⟩
   have HF1:=zak hF1
   have HO1:=zak hO1
   obtain⟨⟨c0,-,-,-,-,c5,-⟩,-⟩:= hF1.c
   rw[HBL.out] at c0
   rw[HE2.out] at c5
   obtain⟨cb,fb⟩:= hF1.byte (j:=at_) (by rw[HBL.out];exact hk)
   rw[HG.out,← HCN.out] at cb
   obtain⟨i1,i2,i3⟩:= zbr hk
   obtain⟨mb,hmb⟩:∃ m:Nat,m=mk % 256:=⟨_,rfl⟩
   have hmbl:mb < 256:=by omega
   have hmi:(mk:Int) % 256=(mb:Int):= by omega
   skip
   clear hF1 hO1 hmb
   go_wp2_with fail
   go_loop [8,9,10,11] (fun n p i _=> ∃ (k:Nat) (z:Int),k≤8∧i= .int .i64 (k:Nat)∧ p= .int .u8 (((2 ^ k % 256:Nat)):Int)∧ n= .int .u8 z∧0≤z∧z < 256∧z=((yn % 2 ^ k+2 ^ k * (cn / 2 ^ k):Nat):Int)) (fun _ _ i _=>8 - (intOf i).toNat)
   case atStart=>exact⟨0,(cn:Int),by omega,rfl,rfl,rfl,by omega,by omega,by omega⟩
   case round=>
    obtain⟨k,z,hk8,rfl,rfl,rfl,h0,h1,hz⟩:= hrel
    by_cases hlt:k < 8
    · have hx1:(0:Int)≤ (xn:Int):= by omega
      have hx2:(xn:Int) < 256:=by omega
      have hb:=HBT.out k hlt
      rcases (show k=0∨k=1∨k=2∨k=3∨k=4∨k=5∨k=6∨k=7 by omega) with rfl | rfl | rfl | rfl | rfl | rfl | rfl | rfl
      · simp only[Nat.reducePow,Nat.reduceMod] at hz hb ⊢
        have HZB:=zak (And.intro hz hb)
        clear hz hb
        have FN:=zak (zkg z xn cn yn HZB.out.1 HZB.out.2 h0 h1 hcl hyl)
        by_cases hmq:z % 2=1
        · have hq:(z % 2 == 1)=true:=by rw[hmq];rfl
          go_wp2_with fail
          all_goals
           go_round
           case rel=>exact⟨1,_,by omega,by go_num,by rfl,rfl,FN.out _ (fun h=>by omega) (fun h=>by omega)⟩
           case measure=>simp[intOf]
        · have hq:(z % 2 == 1)=false:=beq_eq_false_iff_ne.2 hmq
          go_wp2_with fail
          all_goals
           go_round
           case rel=>exact⟨1,_,by omega,by go_num,by rfl,rfl,FN.out _ (fun h=>by omega) (fun h=>by omega)⟩
           case measure=>simp[intOf]
      · simp only[Nat.reducePow,Nat.reduceMod] at hz hb ⊢
        have HZB:=zak (And.intro hz hb)
        clear hz hb
        have FN:=zak (zki z xn cn yn HZB.out.1 HZB.out.2 h0 h1 hcl hyl)
        by_cases hmq:z / 2 % 2=1
        · have hq:(z / 2 % 2 == 1)=true:=by rw[hmq];rfl
          go_wp2_with fail
          all_goals
           go_round
           case rel=>exact⟨2,_,by omega,by go_num,by rfl,rfl,FN.out _ (fun h=>by omega) (fun h=>by omega)⟩
           case measure=>simp[intOf]
        · have hq:(z / 2 % 2 == 1)=false:=beq_eq_false_iff_ne.2 hmq
          go_wp2_with fail
          all_goals
           go_round
           case rel=>exact⟨2,_,by omega,by go_num,by rfl,rfl,FN.out _ (fun h=>by omega) (fun h=>by omega)⟩
           case measure=>simp[intOf]
      · simp only[Nat.reducePow,Nat.reduceMod] at hz hb ⊢
        have HZB:=zak (And.intro hz hb)
        clear hz hb
        have FN:=zak (zkk z xn cn yn HZB.out.1 HZB.out.2 h0 h1 hcl hyl)
        by_cases hmq:z / 4 % 2=1
        · have hq:(z / 4 % 2 == 1)=true:=by rw[hmq];rfl
          go_wp2_with fail
          all_goals
           go_round
           case rel=>exact⟨3,_,by omega,by go_num,by rfl,rfl,FN.out _ (fun h=>by omega) (fun h=>by omega)⟩
           case measure=>simp[intOf]
        · have hq:(z / 4 % 2 == 1)=false:=beq_eq_false_iff_ne.2 hmq
          go_wp2_with fail
          all_goals
           go_round
           case rel=>exact⟨3,_,by omega,by go_num,by rfl,rfl,FN.out _ (fun h=>by omega) (fun h=>by omega)⟩
           case measure=>simp[intOf]
      · simp only[Nat.reducePow,Nat.reduceMod] at hz hb ⊢
        have HZB:=zak (And.intro hz hb)
        clear hz hb
        have FN:=zak (zkm z xn cn yn HZB.out.1 HZB.out.2 h0 h1 hcl hyl)
        by_cases hmq:z / 8 % 2=1
        · have hq:(z / 8 % 2 == 1)=true:=by rw[hmq];rfl
          go_wp2_with fail
          all_goals
           go_round
           case rel=>exact⟨4,_,by omega,by go_num,by rfl,rfl,FN.out _ (fun h=>by omega) (fun h=>by omega)⟩
           case measure=>simp[intOf]
        · have hq:(z / 8 % 2 == 1)=false:=beq_eq_false_iff_ne.2 hmq
          go_wp2_with fail
          all_goals
           go_round
           case rel=>exact⟨4,_,by omega,by go_num,by rfl,rfl,FN.out _ (fun h=>by omega) (fun h=>by omega)⟩
           case measure=>simp[intOf]
      · simp only[Nat.reducePow,Nat.reduceMod] at hz hb ⊢
        have HZB:=zak (And.intro hz hb)
        clear hz hb
        have FN:=zak (zko z xn cn yn HZB.out.1 HZB.out.2 h0 h1 hcl hyl)
        by_cases hmq:z / 16 % 2=1
        · have hq:(z / 16 % 2 == 1)=true:=by rw[hmq];rfl
          go_wp2_with fail
          all_goals
           go_round
           case rel=>exact⟨5,_,by omega,by go_num,by rfl,rfl,FN.out _ (fun h=>by omega) (fun h=>by omega)⟩
           case measure=>simp[intOf]
        · have hq:(z / 16 % 2 == 1)=false:=beq_eq_false_iff_ne.2 hmq
          go_wp2_with fail
          all_goals
           go_round
           case rel=>exact⟨5,_,by omega,by go_num,by rfl,rfl,FN.out _ (fun h=>by omega) (fun h=>by omega)⟩
           case measure=>simp[intOf]
      · simp only[Nat.reducePow,Nat.reduceMod] at hz hb ⊢
        have HZB:=zak (And.intro hz hb)
        clear hz hb
        have FN:=zak (zkq z xn cn yn HZB.out.1 HZB.out.2 h0 h1 hcl hyl)
        by_cases hmq:z / 32 % 2=1
        · have hq:(z / 32 % 2 == 1)=true:=by rw[hmq];rfl
          go_wp2_with fail
          all_goals
           go_round
           case rel=>exact⟨6,_,by omega,by go_num,by rfl,rfl,FN.out _ (fun h=>by omega) (fun h=>by omega)⟩
           case measure=>simp[intOf]
        · have hq:(z / 32 % 2 == 1)=false:=beq_eq_false_iff_ne.2 hmq
          go_wp2_with fail
          all_goals
           go_round
           case rel=>exact⟨6,_,by omega,by go_num,by rfl,rfl,FN.out _ (fun h=>by omega) (fun h=>by omega)⟩
           case measure=>simp[intOf]
      · simp only[Nat.reducePow,Nat.reduceMod] at hz hb ⊢
        have HZB:=zak (And.intro hz hb)
        clear hz hb
        have FN:=zak (zks z xn cn yn HZB.out.1 HZB.out.2 h0 h1 hcl hyl)
        by_cases hmq:z / 64 % 2=1
        · have hq:(z / 64 % 2 == 1)=true:=by rw[hmq];rfl
          go_wp2_with fail
          all_goals
           go_round
           case rel=>exact⟨7,_,by omega,by go_num,by rfl,rfl,FN.out _ (fun h=>by omega) (fun h=>by omega)⟩
           case measure=>simp[intOf]
        · have hq:(z / 64 % 2 == 1)=false:=beq_eq_false_iff_ne.2 hmq
          go_wp2_with fail
          all_goals
           go_round
           case rel=>exact⟨7,_,by omega,by go_num,by rfl,rfl,FN.out _ (fun h=>by omega) (fun h=>by omega)⟩
           case measure=>simp[intOf]
      · simp only[Nat.reducePow,Nat.reduceMod] at hz hb ⊢
        have HZB:=zak (And.intro hz hb)
        clear hz hb
        have FN:=zak (zku z xn cn yn HZB.out.1 HZB.out.2 h0 h1 hcl hyl)
        by_cases hmq:z / 128 % 2=1
        · have hq:(z / 128 % 2 == 1)=true:=by rw[hmq];rfl
          go_wp2_with fail
          all_goals
           go_round
           case rel=>exact⟨8,_,by omega,by go_num,by rfl,rfl,FN.out _ (fun h=>by omega) (fun h=>by omega)⟩
           case measure=>simp[intOf]
        · have hq:(z / 128 % 2 == 1)=false:=beq_eq_false_iff_ne.2 hmq
          go_wp2_with fail
          all_goals
           go_round
           case rel=>exact⟨8,_,by omega,by go_num,by rfl,rfl,FN.out _ (fun h=>by omega) (fun h=>by omega)⟩
           case measure=>simp[intOf]
    · obtain rfl:k=8:=by omega
      have hzy:z=(yr.toNat:Nat):= by have:=HYN.out;omega
      subst hzy
      have HSN:=zak (HS2.out _ HF1.out)
      have HON:Hid (zcj q.F w (w1.setCell ⟨q.gb,at_,none⟩ (.int .u8 (yr.toNat:Nat)))):= zak ((HO1.out.mono (fun _ _ h=> .inl h)).set _ (.inr (.inl rfl)) _)
      clear hz h0 h1
      go_wp2_with fail
      go_ret
      exact⟨rfl,HSN.out,HON.out⟩
end
end
end Go.Proofs.YtehabbnohoomjaaGreatDoor
