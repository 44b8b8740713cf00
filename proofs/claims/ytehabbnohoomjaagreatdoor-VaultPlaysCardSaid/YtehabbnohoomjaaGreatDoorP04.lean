/- None -/
import Derived.Test.YtehabbnohoomjaaGreatDoorP03
import Derived.Deep.RegionWith
import Derived.Deep.DrawnRows
import Derived.BigQuiet
import Derived.Deep.QuietTactic
namespace Go.Proofs.YtehabbnohoomjaaGreatDoor
set_option linter.unusedVariables false
set_option linter.unusedSimpArgs false
set_option linter.unnecessarySimpa false
section
open Go.RowKit
set_option maxRecDepth 20000
set_option maxHeartbeats 1000000
theorem zdg (r b:Nat) (hb:b < 2) (hr:U32 r) :
 bits BinOp.xor IntKind.u32 (↑r / 2) (bits BinOp.and IntKind.u32 3988292384 (-bits BinOp.xor IntKind.u32 (bits BinOp.and IntKind.u32 (↑r) 1) ↑b % 4294967296))=((crcBit r b:Nat):Int):= by
 have hr':r < 4294967296:=hr
 have e1:bits BinOp.and IntKind.u32 (↑r) 1=((r % 2:Nat):Int):= by
  rw[show (1:Int)=((1:Nat):Int) from rfl,u32_and_nat r 1 hr' (by decide),Nat.and_one_is_mod]
 have e2:((r:Int) / 2)=((r / 2:Nat):Int):= by push_cast;rfl
 rw[e1,u32_xor_nat _ _ (by omega) (by omega),e2]
 unfold crcBit
 split
 · rename_i h
   rw[h,Nat.xor_self]
   have:bits BinOp.and IntKind.u32 3988292384 (-((0:Nat):Int) % 4294967296)=0:=by decide
   rw[this,show (0:Int)=((0:Nat):Int) from rfl,u32_xor_nat _ _ (by omega) (by decide),Nat.xor_zero]
 · rename_i h
   have:r % 2 ^^^ b=1:=by
    have h2:r % 2 < 2:=Nat.mod_lt _ (by decide)
    generalize r % 2=q at *
    have:(q=0∨q=1)∧ (b=0∨b=1):= by omega
    rcases this with ⟨rfl | rfl,rfl | rfl⟩<;> first | rfl | exact absurd rfl h
   rw[this]
   have:bits BinOp.and IntKind.u32 3988292384 (-((1:Nat):Int) % 4294967296)=((poly:Nat):Int):= by decide
   rw[this,u32_xor_nat _ _ (by omega) (by decide)]
theorem zdh (b r g N:Nat) (w0 w:World) (hb:b < 2) (hr:U32 r) (hB:Blk w g 45 #[.int .u32 (r:Nat)]) (hbel:Below N w0 w) (hN:N≤g) :
 Calls Tryz.prog 223 #[.int .u32 (b:Nat),.pointer (some ⟨g,0,none⟩)] w fun e w'=>e= .returned (.tuple #[])∧ Blk w' g 45 #[.int .u32 (crcBit r b:Nat)]∧ Below N w0 w':=by
 have c0:=hB.cell 0 rfl
 have f0:=hB.frozen 0
 go_enter Tryz.func223,Tryz.ntmps223
 go_wp2_with fail
 go_end0
 exact⟨rfl,by rw[zdg r b hb hr];exact (hB.set_ 0 _).set_ 0 _,zbp (zbp hbel hN _) hN _⟩
theorem zdi (s:Nat) (h:U32 s):bits BinOp.xor IntKind.u32 IntKind.u32.max (s:Int)=((4294967295 - s:Nat):Int):= by
 have h':s < 4294967296:=h
 rw[show IntKind.u32.max=((4294967295:Nat):Int) from rfl,u32_xor_nat _ _ (by decide) h']
 congr 1
 have e:(BitVec.ofNat 32 4294967295 ^^^ BitVec.ofNat 32 s).toNat=(~~~ BitVec.ofNat 32 s).toNat:=by
  rw[show BitVec.ofNat 32 4294967295=BitVec.allOnes 32 from rfl,BitVec.allOnes_xor]
 rw[BitVec.toNat_xor,BitVec.toNat_not,BitVec.toNat_ofNat,BitVec.toNat_ofNat,Nat.mod_eq_of_lt (by decide),Nat.mod_eq_of_lt h'] at e
 rw[e]
theorem zdj (c j:Nat) (hc:c < 256):bits BinOp.and IntKind.u32 ((c:Int) / 2 ^ j) 1=((c / 2 ^ j % 2:Nat):Int):= by
 have e:((c:Int) / 2 ^ j)=((c / 2 ^ j:Nat):Int):= by push_cast;rfl
 have h2:c / 2 ^ j≤c:=Nat.div_le_self _ _
 rw[e,show (1:Int)=((1:Nat):Int) from rfl,u32_and_nat _ 1 (by omega) (by decide),Nat.and_one_is_mod]
theorem zdk (A:Option Addr) (n c s:Nat) (l:List UInt8) (w:World) (hn:n=l.length) (hl:n≤35184372088832) (hu:U32 s) (hs:Sl w A (l.map bv)) :
 Calls Tryz.prog 219 #[.int .u32 (s:Nat),.slice A n c] w fun e w'=>e= .returned (.int .u32 (crcOn s l:Nat))∧ Below w.heap.size w w':=by
 have HN:=zak hn
 clear hn
 go_enter Tryz.func219,Tryz.ntmps219
 go_wp2_with fail
 go_loopw [8,9,15] (fun _ _ i wr=> ∃ k,k≤n∧i= .int .i64 (k:Nat)∧ Blk wr w.heap.size 45 #[.int .u32 (crcL (4294967295 - s) (l.take k):Nat)]∧ Below w.heap.size w wr) (fun _ _ i _=>n - (intOf i).toNat)
 case atStart=>
  rw[zdi s hu]
  exact⟨0,by omega,rfl,zbm _ _ _,zbf (Below.refl _ _) _⟩
 case round=>
  obtain⟨k,hk,rfl,hB,hbr⟩:= hrel
  by_cases hlt:k < n
  · obtain⟨ad,rfl,hcell⟩:= (hs.below hbr).byte (j:=k) (by have:=HN.out;omega)
    obtain⟨b,hb⟩:∃ b,b=(l[k]'(by have:=HN.out;omega)).toNat:=⟨_,rfl⟩
    have lb:b < 256:=by rw[hb];exact UInt8.toNat_lt _
    rw[← hb] at hcell
    have HK:=zak (show crcL (4294967295 - s) (l.take (k+1))=crcBits (crcL (4294967295 - s) (l.take k)) b 8 by rw[zde _ _ _ (by have:=HN.out;omega),hb])
    have hrl:=zdc (U32.comp s) (l.take k)
    obtain⟨r,hr⟩:∃ r,r=crcL (4294967295 - s) (l.take k):= ⟨_,rfl⟩
    rw[← hr] at HK hB hrl
    clear hb hr
    go_wp2_with fail
    go_loopw [9,19] (fun _ i wr=> ∃ j,j≤8∧i= .int .i64 (j:Nat)∧ Blk wr w.heap.size 45 #[.int .u32 (crcBits r b j:Nat)]∧ Below w.heap.size w wr) (fun _ i _=>8 - (intOf i).toNat)
    case atStart=>exact⟨0,by omega,rfl,hB,hbr⟩
    case round=>
     clear hbr hB hcell
     obtain⟨j,hj,rfl,hB,hbr⟩:= hrel
     by_cases hj8:j < 8
     · go_wp2_with fail
       rw[zdj b j lb]
       refine (zdh (b / 2 ^ j % 2) (crcBits r b j) w.heap.size w.heap.size w _ (by omega) (zdb hrl _ _) hB hbr (Nat.le_refl _)).mono ?_
       rintro e w1 ⟨rfl,hB1,hb1⟩
       go_wp2_with fail
       go_roundw
       case rel=>exact⟨j+1,by omega,by go_num,hB1,hb1⟩
       case measure=>simp[intOf];omega
     · obtain rfl:j=8:=by omega
       go_wp2_with fail
       go_roundw
       case rel=>exact⟨k+1,by omega,by go_num,by rw[HK.out];exact hB,hbr⟩
       case measure=>simp[intOf];omega
  · obtain rfl:k=n:=by omega
    have c0:=hB.cell 0 rfl
    have HT:=zak (show l.take k=l from List.take_of_length_le (by have:=HN.out;omega))
    have hcu:=zdi _ (zdc (U32.comp s) (l.take k))
    go_wp2_with fail
    go_ret
    exact⟨by rw[HT.out];rfl,hbr⟩
theorem zdl (A:Option Addr) (n c:Nat) (l:List UInt8) (w:World) (hn:n=l.length) (hl:n≤35184372088832) (hs:Sl w A (l.map bv)) :
 Calls Tryz.prog 208 #[.slice A n c] w fun e w'=>e= .returned (.int .u32 (crcOn 0 l:Nat))∧ Below w.heap.size w w':=by
 have h:=zdk A n c 0 l w hn hl (by unfold U32;omega) hs
 rw[show (((0:Nat)):Int)=0 from rfl] at h
 have HH:=zak h
 clear h hn
 go_enter Tryz.func208,Tryz.ntmps208
 go_wp2_with fail
 refine HH.out.mono ?_
 rintro e w1 ⟨rfl,hb1⟩
 go_wp2_with fail
 go_ret
 exact⟨rfl,hb1⟩
end
section
open Go.RowKit
set_option maxRecDepth 20000
set_option maxHeartbeats 1000000
attribute [local go_sem ↓] Go.wp_at_zero Go.wp_at_succ
theorem zdm (a b:Nat) (ha:a < 4294967296) (hb:b < 4294967296):bits .xor .i64 (a:Int) (b:Int)=((a ^^^ b:Nat):Int):= by
 have hx:a ^^^ b < 2 ^ 32:=Nat.xor_lt_two_pow (by omega) (by omega)
 show IntKind.i64.wrap ((BitVec.ofInt 64 (a:Int) ^^^ BitVec.ofInt 64 (b:Int)).toNat:Int)=_
 rw[BitVec.toNat_xor,ofInt_u64 a (by omega),ofInt_u64 b (by omega)]
 exact IntWalk.i64_in _ (by omega)
theorem zdn (a:Nat) (ha:U32 a):bits .xor .i64 (a:Int) 3988292384=((a ^^^ poly:Nat):Int):= by
 rw[show (3988292384:Int)=((poly:Nat):Int) from rfl]
 exact zdm a poly ha zc9
theorem zdo (s:Nat) (h:U32 s):(4294967295:Int) - s=((4294967295 - s:Nat):Int):= by unfold U32 at h;omega
theorem zdp (r b:Nat) (h:r % 2=b):crcBit r b=r / 2:=by rw[crcBit,if_pos h]
theorem zdq (r b:Nat) (h: ¬ r % 2=b):crcBit r b=(r / 2) ^^^ poly:=by rw[crcBit,if_neg h]
theorem zdr (A:Option Addr) (n c s:Nat) (l:List UInt8) (w:World) (hn:n=l.length) (hl:n≤35184372088832) (hu:U32 s) (hs:Sl w A (l.map bv)) :
 Calls Tryz.prog 222 #[.int .u32 (s:Nat),.slice A n c] w fun e w'=>e= .returned (.int .u32 (crcOn s l:Nat))∧ w=w':=by
 have HN:=zak hn
 have HC:=zak (zdo s hu)
 have hu':s≤4294967295:=by unfold U32 at hu;omega
 clear hn
 go_enter Tryz.func222,Tryz.ntmps222
 go_wp2_with fail
 go_loop [5,6,7,8,9] (fun r i _ _ _=> ∃ k:Nat,k≤n∧i= .int .i64 (k:Nat)∧ r= .int .i64 (crcL (4294967295 - s) (l.take k):Nat)) (fun _ i _ _ _=>n - (intOf i).toNat)
 case atStart=>exact⟨0,by omega,rfl,by rw[HC.out];rfl⟩
 case round=>
  obtain⟨k,hk,rfl,rfl⟩:= hrel
  have hrl:=zdc (U32.comp s) (l.take k)
  obtain⟨r,hr⟩:∃ r,r=crcL (4294967295 - s) (l.take k):= ⟨_,rfl⟩
  rw[← hr] at hrl ⊢
  have HR:=zak hr
  clear hr
  by_cases hlt:k < n
  · obtain⟨ad,rfl,hcell⟩:= hs.byte (j:=k) (by have:=HN.out;omega)
    obtain⟨b,hb⟩:∃ b,b=(l[k]'(by have:=HN.out;omega)).toNat:=⟨_,rfl⟩
    have lb:b < 256:=by rw[hb];exact UInt8.toNat_lt _
    rw[← hb] at hcell
    have HK:=zak (show crcL (4294967295 - s) (l.take (k+1))=crcBits r b 8 by rw[zde _ _ _ (by have:=HN.out;omega),hb,HR.out])
    clear hb
    go_wp2_with fail
    go_loop [5,7,8,9] (fun x y i _=> ∃ j:Nat,j≤8∧i= .int .i64 (j:Nat)∧ x= .int .i64 (crcBits r b j:Nat)∧ y= .int .i64 (b / 2 ^ j:Nat)) (fun _ _ i _=>8 - (intOf i).toNat)
    case atStart=>exact⟨0,by omega,rfl,rfl,by simp⟩
    case round=>
     clear hcell
     obtain⟨j,hj,rfl,rfl,rfl⟩:= hrel
     have hxl:=zdb hrl b j
     have hyl:b / 2 ^ j≤b:=Nat.div_le_self _ _
     have HS:=zak (show crcBits r b (j+1)=crcBit (crcBits r b j) (b / 2 ^ j % 2) from rfl)
     have HY:=zak (show b / 2 ^ (j+1)=b / 2 ^ j / 2 by rw[Nat.pow_succ,Nat.div_div_eq_div_mul])
     obtain⟨x,hx⟩:∃ x,x=crcBits r b j:=⟨_,rfl⟩
     obtain⟨y,hy⟩:∃ y,y=b / 2 ^ j:=⟨_,rfl⟩
     rw[← hx] at hxl HS ⊢
     rw[← hy] at hyl HS HY ⊢
     have HX:=zak hx
     clear hx hy
     have hxp:=zdn _ hxl.half
     have hxl':x≤4294967295:=by unfold U32 at hxl;omega
     by_cases hj8:j < 8
     · by_cases hp:x % 2=y % 2
       · have hp':((x:Int) % 2 != (y:Int) % 2)=false:=by simp;omega
         have HP:=zak hp
         clear hp
         go_wp2_with fail
         go_round
         case rel=>exact⟨j+1,by omega,by go_num,by rw[HS.out,zdp _ _ HP.out];go_num,by rw[HY.out];go_num⟩
         case measure=>simp[intOf];omega
       · have hp':((x:Int) % 2 != (y:Int) % 2)=true:=by simp;omega
         have HP:=zak hp
         clear hp
         go_wp2_with fail
         go_round
         case rel=>exact⟨j+1,by omega,by go_num,by rw[HS.out,zdq _ _ HP.out,← hxp];rfl,by rw[HY.out];go_num⟩
         case measure=>simp[intOf];omega
     · obtain rfl:j=8:=by omega
       go_wp2_with fail
       go_round
       case rel=>exact⟨k+1,by omega,by go_num,by rw[HK.out,HX.out]⟩
       case measure=>simp[intOf];omega
  · obtain rfl:k=n:=by omega
    have HT:=zak (show l.take k=l from List.take_of_length_le (by have:=HN.out;omega))
    have hrl':r≤4294967295:=by unfold U32 at hrl;omega
    go_wp2_with fail
    go_ret
    exact⟨za0 (by rw[crcOn,← HT.out,← HR.out];omega),rfl⟩
theorem zds (A:Option Addr) (n c:Nat) (l:List UInt8) (w:World) (hn:n=l.length) (hl:n≤35184372088832) (hs:Sl w A (l.map bv)) :
 Calls Tryz.prog 217 #[.slice A n c] w fun e w'=>e= .returned (.int .u32 (crcOn 0 l:Nat))∧ w=w':=by
 have h:=zdr A n c 0 l w hn hl (by unfold U32;omega) hs
 rw[show (((0:Nat)):Int)=0 from rfl] at h
 have HH:=zak h
 clear h hn
 go_enter Tryz.func217,Tryz.ntmps217
 go_wp2_with fail
 refine HH.out.mono ?_
 rintro e w1 ⟨rfl,rfl⟩
 go_wp2_with fail
 go_ret
 exact⟨rfl,rfl⟩
def sealL (l:List UInt8):List UInt8:=l ++ leB 4 (crcOn 0 l)
theorem zdt (l:List UInt8):(sealL l).length=l.length+4:=by simp[sealL,zan]
theorem zdu (l:List UInt8):crcOn 0 l < 256 ^ (Int.toNat 4):= by have:=zdf 0 l;unfold U32 at this;exact this
theorem zdv (A:Option Addr) (n c:Nat) (l:List UInt8) (w:World) (hn:n=l.length) (hl:n≤35184372088832) (hs:Sl w A (l.map bv)) :
 Calls Tryz.prog 188 #[.slice A n c] w fun e w'=> ∃ A' n' c',e= .returned (.slice A' n' c')∧ zcd w' w.heap.size A' n' c' (sealL l)∧ Below w.heap.size w w':=by
 obtain⟨s,hse⟩:∃ s,s=crcOn 0 l:=⟨_,rfl⟩
 have hs4:s≤4294967295:=by have:=zdf 0 l;unfold U32 at this;omega
 have HS:=zak (zdl A n c l w hn hl hs)
 have HP:=zak (show ∀ W,Sl W A (l.map bv)→ _ from fun W h=>zcz A n c l 4 s W hn (by omega) (by omega) (by rw[hse];exact zdu l) hl h)
 have HE:=zak (show sealL l=l ++ leB (Int.toNat 4) s by rw[hse];rfl)
 rw[← hse] at HS
 clear hn hse
 go_enter Tryz.func188,Tryz.ntmps188
 go_wp2_with fail
 refine HS.out.mono ?_
 rintro e w1 ⟨rfl,hb1⟩
 go_wp2_with fail
 refine (HP.out _ (hs.below hb1)).mono ?_
 rintro e w2 ⟨A2,n2,c2,rfl,hO2,hb2⟩
 go_wp2_with fail
 go_ret
 exact⟨_,_,_,rfl,by rw[HE.out];exact hO2.mono hb1.size,zbd hb2 hb1⟩
theorem zdw (A:Option Addr) (n c:Nat) (l:List UInt8) (w:World) (hn:n=l.length) (hl:n≤35184372088832) (hs:Sl w A (l.map bv)) :
 Calls Tryz.prog 201 #[.slice A n c] w fun e w'=> ∃ A' n' c',e= .returned (.slice A' n' c')∧ zcd w' w.heap.size A' n' c' (sealL l)∧ Below w.heap.size w w':=by
 obtain⟨s,hse⟩:∃ s,s=crcOn 0 l:=⟨_,rfl⟩
 have hs4:s≤4294967295:=by have:=zdf 0 l;unfold U32 at this;omega
 have HS:=zak (zds A n c l w hn hl hs)
 have HP:=zak (show ∀ W,Sl W A (l.map bv)→ _ from fun W h=>zc5 A n c l 4 s W (.small hs4) (by omega) (by omega) (by rw[hse];exact zdu l) hn hl h)
 have HE:=zak (show sealL l=l ++ leB (Int.toNat 4) s by rw[hse];rfl)
 rw[← hse] at HS
 clear hn hse
 go_enter Tryz.func201,Tryz.ntmps201
 go_wp2_with fail
 refine HS.out.mono ?_
 rintro e w1 ⟨rfl,rfl⟩
 go_wp2_with fail
 refine (HP.out _ hs).mono ?_
 rintro e w2 ⟨A2,n2,c2,rfl,hO2,hb2⟩
 go_wp2_with fail
 go_ret
 exact⟨_,_,_,rfl,by rw[HE.out];exact hO2,hb2⟩
def openE (l:List UInt8):Int:=if l.length < 4 then 2 else if leN (l.drop (l.length - 4))=crcOn 0 (l.take (l.length - 4)) then 0 else 5
theorem zdx (l:List UInt8) (n:Nat) (hn:n=l.length) (h:4≤n) (he:leN ((l.drop (n - 4)).take 4)=crcOn 0 (l.take (n - 4))):openE l=0:=by
 subst hn
 rw[List.take_of_length_le (by simp;omega)] at he
 rw[openE,if_neg (by omega),if_pos he]
theorem zdy (l:List UInt8) (n:Nat) (hn:n=l.length) (h:4≤n) (he: ¬ leN ((l.drop (n - 4)).take 4)=crcOn 0 (l.take (n - 4))):openE l=5:=by
 subst hn
 rw[List.take_of_length_le (by simp;omega)] at he
 rw[openE,if_neg (by omega),if_neg he]
theorem zdz (l:List UInt8) (n:Nat) (hn:n=l.length) (h:4≤n):sealL (l.take (n - 4))=l ↔ leN ((l.drop (n - 4)).take 4)=crcOn 0 (l.take (n - 4)):= by
 subst hn
 rw[List.take_of_length_le (l:=l.drop _) (by simp;omega)]
 have hd:(l.drop (l.length - 4)).length=4:=by simp;omega
 constructor
 · intro he
   have:l.take (l.length - 4) ++ leB 4 (crcOn 0 (l.take (l.length - 4)))=l.take (l.length - 4) ++ l.drop (l.length - 4):= by
    rw[List.take_append_drop];exact he
   have h2:=List.append_cancel_left this
   rw[← h2,zap]
   exact Nat.mod_eq_of_lt (zdf _ _)
 · intro he
   have h3:=zaq (l.drop (l.length - 4))
   rw[hd,he] at h3
   rw[sealL,h3,List.take_append_drop]
def OpenD (l d:List UInt8):Prop:=openE l=0→d=l.take (l.length - 4)
theorem zd0 (l d:List UInt8) (h:openE l≠0):OpenD l d:=fun h'=>absurd h' h
theorem zd1 (l:List UInt8) (n:Nat) (h:n=l.length):OpenD l (l.take (n - 4)):= fun _=>by rw[h]
theorem zd2 (A:Option Addr) (n c:Nat) (l:List UInt8) (w:World) (hn:n=l.length) (hc:n≤c) (hl:n≤35184372088832) (hs:Sl w A (l.map bv)) :
 Calls Tryz.prog 179 #[.slice A n c] w fun e w'=> ∃ A' n' c' d,e= .returned (.tuple #[.slice A' n' c',.int .i64 (openE l)])∧ zcd w' w.heap.size A' n' c' d∧OpenD l d∧Below w.heap.size w w':=by
 by_cases h4:n < 4
 · have HE:=zak (show openE l=2 by rw[openE,if_pos (by omega)])
   clear hn
   go_enter Tryz.func179,Tryz.ntmps179
   go_wp2_with fail
   go_ret2
   exact⟨none,0,0,[],by rw[HE.out];rfl,zcd.nil _ _,zd0 _ _ (by rw[HE.out];decide),Below.refl _ _⟩
 · have hi:(4:Int)≤ n:=by omega
   have e1:((n:Int) - 4).toNat=n - 4:=by omega
   obtain⟨x,hx⟩:∃ x,x=leN ((l.drop (n - 4)).take 4):= ⟨_,rfl⟩
   obtain⟨s,hse⟩:∃ s,s=crcOn 0 (l.take (n - 4)):= ⟨_,rfl⟩
   have lx:x≤4294967295:=by
    have:=zao ((l.drop (n - 4)).take 4)
    have h2:((l.drop (n - 4)).take 4).length=4:=by simp;omega
    rw[h2] at this
    have h3:(256:Nat) ^ 4=4294967296:=by decide
    omega
   have HG:=zak (show _ from zc0 A n c l (n - 4) 4 w hn hc (by omega) (by omega) (by omega) (by omega) (by omega) hs)
   rw[e1] at HG
   rw[show Int.toNat 4=4 from rfl,← hx] at HG
   have HS:=zak (show _ from zdl A (n - 4) c (l.take (n - 4)) w (by simp;omega) (by omega) (by rw[List.map_take];exact hs.take _))
   rw[← hse] at HS
   have ls:s≤4294967295:=by have:=zdf 0 (l.take (n - 4));unfold U32 at this;omega
   by_cases he:x=s
   · have HE:=zak (zdx l n hn (by omega) (by rw[← hx,← hse];exact he))
     have HL:=zak (show (l.take (n - 4)).length=n - 4 by simp;omega)
     have hst:Sl w A ((l.take (n - 4)).map bv):= by rw[List.map_take];exact hs.take _
     have he':((x:Int) != (s:Int))=false:=by simp;omega
     have HNN:=zak hn.symm
     clear hn hx hse he hs
     go_enter Tryz.func179,Tryz.ntmps179
     go_wp2_with fail
     refine HG.out.mono ?_
     rintro e w1 ⟨rfl,rfl⟩
     go_wp2_with fail
     refine HS.out.mono ?_
     rintro e w1 ⟨rfl,hb1⟩
     go_wp2_with (at_builtin;refine zce _ rfl (.const (.slice none 0 0)) (.tmp 27) rfl w.heap.size _ _ _ _ rfl (zcd.nil _ _) _ _ _ (l.take (n - 4)) rfl HL.out.symm (hst.below hb1) (by omega) hb1.size (n - 4) (by omega) ?_;intro A3 c3 w3 hown3 _ _ hb3)
     go_ret2
     exact⟨A3,n - 4,c3,_,by rw[HE.out];rfl,hown3,zd1 _ _ HNN.out.symm,hb1.trans hb3⟩
   · have HE:=zak (zdy l n hn (by omega) (by rw[← hx,← hse];exact he))
     have he':((x:Int) != (s:Int))=true:=by simp;omega
     clear hn hx hse he
     go_enter Tryz.func179,Tryz.ntmps179
     go_wp2_with fail
     refine HG.out.mono ?_
     rintro e w1 ⟨rfl,rfl⟩
     go_wp2_with fail
     refine HS.out.mono ?_
     rintro e w1 ⟨rfl,hb1⟩
     go_wp2_with fail
     go_ret2
     exact⟨none,0,0,[],by rw[HE.out];rfl,zcd.nil _ _,zd0 _ _ (by rw[HE.out];decide),hb1⟩
theorem zd3 (A:Option Addr) (n c:Nat) (l:List UInt8) (w:World) (hn:n=l.length) (hc:n≤c) (hl:n≤35184372088832) (hs:Sl w A (l.map bv)) :
 Calls Tryz.prog 221 #[.slice A n c] w fun e w'=> ∃ A' n' c' d,e= .returned (.tuple #[.slice A' n' c',.int .i64 (openE l)])∧ zcd w' w.heap.size A' n' c' d∧OpenD l d∧Below w.heap.size w w':=by
 by_cases h4:n < 4
 · have HE:=zak (show openE l=2 by rw[openE,if_pos (by omega)])
   clear hn
   go_enter Tryz.func221,Tryz.ntmps221
   go_wp2_with fail
   go_ret2
   exact⟨none,0,0,[],by rw[HE.out];rfl,zcd.nil _ _,zd0 _ _ (by rw[HE.out];decide),Below.refl _ _⟩
 · have hi:(4:Int)≤ n:=by omega
   have e1:((n:Int) - 4).toNat=n - 4:=by omega
   have e2:IntKind.i64.wrap ((n:Int) - 4)=(n:Int) - 4:=IntWalk.i64_in _ (by omega)
   have e3:(0:Int)≤ (n:Int) - 4:=by omega
   have e4:(n:Int) - 4≤(c:Int):= by omega
   have HS:=zak (show ∀ W,Sl W A ((l.take (n - 4)).map bv)→ _ from fun W h=>zdw A (n - 4) c (l.take (n - 4)) W (by simp;omega) (by omega) h)
   have HC:=fun (W:World) (h:Below w.heap.size w W)=> zcg (w:=W) c hn (hs.below h)
   have hst:Sl w A ((l.take (n - 4)).map bv):= by rw[List.map_take];exact hs.take _
   have hcut:=fun W=>zci A n c 0 (n - 4) 0 ((n:Int) - 4) .i64 .i64 rfl (by omega) (by omega) (by omega) W
   have HL:=zak (show (l.take (n - 4)).length=n - 4 by simp;omega)
   by_cases he:sealL (l.take (n - 4))=l
   · have HE:=zak (zdx l n hn (by omega) ((zdz l n hn (by omega)).1 he))
     have hq:(sealL (l.take (n - 4)) == l)=true:=by simpa using he
     have HNN:=zak hn
     clear hn he
     go_enter Tryz.func221,Tryz.ntmps221
     go_wp2_with fail
     have hr0:=Below.refl w.heap.size w
     have hr1:=zb9 hr0
     go_region_with (first
      | (go_at_call 201;(with_reducible refine (HS.out _ (hst.below bl)).mono ?_);rintro e w1 ⟨A1,n1,c1,rfl,hO1,hb1⟩;have t1:=zcg c1 hO1.hn hO1.sl;have hbw:Below w.heap.size w w1:=bl;have t2:=HC w1 hbw;dsimp only))
     all_goals
      go_wp2_with (at_builtin;refine zce _ rfl (.tmp 20) (.tmp 23) rfl w.heap.size _ _ _ _ rfl (zcd.nil _ _) _ _ _ (l.take (n - 4)) rfl HL.out.symm (hst.below hbw) (by omega) hbw.size (n - 4) (by omega) ?_;intro A3 c3 w3 hown3 _ _ hb3)
      go_ret2
      exact⟨A3,n - 4,c3,_,by rw[HE.out];rfl,hown3,zd1 _ _ HNN.out,hbw.trans hb3⟩
   · have HE:=zak (zdy l n hn (by omega) (fun h=>he ((zdz l n hn (by omega)).2 h)))
     have hq:(sealL (l.take (n - 4)) == l)=false:=by simpa using he
     clear hn he
     go_enter Tryz.func221,Tryz.ntmps221
     go_wp2_with fail
     have hr0:=Below.refl w.heap.size w
     have hr1:=zb9 hr0
     go_region_with (first
      | (go_at_call 201;(with_reducible refine (HS.out _ (hst.below bl)).mono ?_);rintro e w1 ⟨A1,n1,c1,rfl,hO1,hb1⟩;have t1:=zcg c1 hO1.hn hO1.sl;have hbw:Below w.heap.size w w1:=bl;have t2:=HC w1 hbw;dsimp only))
     all_goals
      go_wp2_with fail
      go_ret2
      exact⟨none,0,0,[],by rw[HE.out];rfl,zcd.nil _ _,zd0 _ _ (by rw[HE.out];decide),hbw⟩
end
section
open Go.RowKit
set_option maxRecDepth 20000
set_option maxHeartbeats 1000000
def rightR (kind:Int) (num len:Nat):Int:=
 if num=0 then 1 else if kind=2∧len=0 then 0 else if kind≠1 then 1 else if 960 < len then 3 else 0
def fitsR (kind:Int) (num:Nat) (n:Int):Bool:=decide (0 < num∧(kind=2∧n=0∨kind=1∧n≤960))
theorem zd4 (A:Option Addr) (kind:Int) (num n c:Nat) (w:World) :
 Calls Tryz.prog 186 #[.agg #[.int .i64 kind,.int .u32 (num:Nat),.slice A n c]] w fun e w'=>e= .returned (.int .i64 (rightR kind num n))∧ Below w.heap.size w w':=by
 go_enter Tryz.func186,Tryz.ntmps186
 go_wp2_with fail
 all_goals
  go_ret
  exact⟨za0 (by simp_all [rightR];try omega),zbf (Below.refl _ _) _⟩
theorem zd5 (A:Option Addr) (kind:Int) (num n c:Nat) (w:World) :
 Calls Tryz.prog 199 #[.agg #[.int .i64 kind,.int .u32 (num:Nat),.slice A n c]] w fun e w'=>e= .returned (.int .i64 (rightR kind num n))∧ Below w.heap.size w w':=by
 go_enter Tryz.func199,Tryz.ntmps199
 go_wp2_with fail
 all_goals
  go_ret
  exact⟨za0 (by simp_all [rightR];try omega),zbf (Below.refl _ _) _⟩
theorem zd6 (A:Option Addr) (kind:Int) (num n c:Nat) (m:Int) (w:World) :
 Calls Tryz.prog 178 #[.agg #[.int .i64 kind,.int .u32 (num:Nat),.slice A n c],.int .i64 m] w fun e w'=>e= .returned (.bool (fitsR kind num m))∧ Below w.heap.size w w':=by
 go_enter Tryz.func178,Tryz.ntmps178
 go_wp2_with fail
 all_goals
  go_ret
  exact⟨za1 (by rw[Bool.eq_iff_iff];simp_all [fitsR];try omega),zbf (Below.refl _ _) _⟩
def blankB (l:List UInt8):Bool:=l.all (· == 255)
theorem zd7 (l:List UInt8) (k:Nat) (h:k < l.length) (hb:(l[k]).toNat≠255):blankB l=false:=by
 simp only[blankB,List.all_eq_false]
 exact⟨l[k],List.getElem_mem h,by intro h';simp at h';rw[h'] at hb;exact hb rfl⟩
theorem zd8 (l:List UInt8) (h:∀ k (hk:k < l.length),(l[k]).toNat=255):blankB l=true:=by
 simp only[blankB,List.all_eq_true]
 intro x hx
 obtain⟨k,hk,rfl⟩:= List.getElem_of_mem hx
 simp
 exact UInt8.toNat.inj (h k hk)
theorem zd9 (A:Option Addr) (n c:Nat) (l:List UInt8) (w:World) (hn:n=l.length) (hl:n≤35184372088832) (hs:Sl w A (l.map bv)) :
 Calls Tryz.prog 149 #[.slice A n c] w fun e w'=>e= .returned (.bool (blankB l))∧ w=w':=by
 have HN:=zak hn
 clear hn
 go_enter Tryz.func149,Tryz.ntmps149
 go_wp2_with fail
 go_loop [4,7] (fun _ i=> ∃ k:Nat,k≤n∧i= .int .i64 k∧Hid (∀ j (hj:j < l.length),j < k→(l[j]).toNat=255)) (fun _ i=>n - (intOf i).toNat)
 case atStart=>exact⟨0,by omega,rfl,zak (by intro j _ h;omega)⟩
 case round=>
  obtain⟨k,hk,rfl,HA⟩:= hrel
  by_cases hlt:k < n
  · obtain⟨ad,rfl,hcell⟩:= hs.byte (j:=k) (by have:=HN.out;omega)
    obtain⟨b,hb⟩:∃ b,b=(l[k]'(by have:=HN.out;omega)).toNat:=⟨_,rfl⟩
    rw[← hb] at hcell
    have HB:=zak hb
    clear hb
    go_wp2_with fail
    · go_ret
      exact⟨za1 (zd7 l k (by have:=HN.out;omega) (by rw[← HB.out];simp_all;omega)).symm,rfl⟩
    · go_round
      case rel=>
       refine⟨k+1,by omega,by go_num,zak ?_⟩
       intro j hj hjk
       by_cases e:j=k
       · subst e;rw[← HB.out];simp_all;omega
       · exact HA.out j hj (by omega)
      case measure=>simp[intOf];omega
  · go_wp2_with fail
    go_ret
    exact⟨za1 (zd8 l (fun j hj=>HA.out j hj (by have:=HN.out;omega))).symm,rfl⟩
theorem zea (A:Option Addr) (n c:Nat) (l:List UInt8) (w:World) (hn:n=l.length) (hl:n≤35184372088832) (hs:Sl w A (l.map bv)) :
 Calls Tryz.prog 215 #[.slice A n c] w fun e w'=>e= .returned (.bool (blankB l))∧ w=w':=by
 have HN:=zak hn
 clear hn
 go_enter Tryz.func215,Tryz.ntmps215
 go_wp2_with fail
 go_loop [3] (fun i=> ∃ k:Nat,k≤n∧i= .int .i64 k∧Hid (∀ j (hj:j < l.length),j < k→(l[j]).toNat=255)) (fun i=>n - (intOf i).toNat)
 case atStart=>exact⟨0,by omega,rfl,zak (by intro j _ h;omega)⟩
 case round=>
  obtain⟨k,hk,rfl,HA⟩:= hrel
  by_cases hlt:k < n
  · obtain⟨ad,rfl,hcell⟩:= hs.byte (j:=k) (by have:=HN.out;omega)
    obtain⟨b,hb⟩:∃ b,b=(l[k]'(by have:=HN.out;omega)).toNat:=⟨_,rfl⟩
    rw[← hb] at hcell
    have HB:=zak hb
    clear hb
    go_wp2_with fail
    · go_ret
      exact⟨za1 (zd7 l k (by have:=HN.out;omega) (by rw[← HB.out];simp_all;omega)).symm,rfl⟩
    · go_round
      case rel=>
       refine⟨k+1,by omega,by go_num,zak ?_⟩
       intro j hj hjk
       by_cases e:j=k
       · subst e;rw[← HB.out];simp_all;omega
       · exact HA.out j hj (by omega)
      case measure=>simp[intOf];omega
  · go_wp2_with fail
    go_ret
    exact⟨za1 (zd8 l (fun j hj=>HA.out j hj (by have:=HN.out;omega))).symm,rfl⟩
def sameR (k1:Int) (m1:Nat) (l1:List UInt8) (k2:Int) (m2:Nat) (l2:List UInt8):Bool:=decide (k1=k2∧m1=m2∧l1=l2)
end
section
open Go.RowKit
set_option maxRecDepth 20000
set_option maxHeartbeats 1000000
attribute [local go_sem ↓] Go.wp_at_zero Go.wp_at_succ
def recH (kind num:Nat) (n:Nat):List UInt8:= [87] ++ leB 1 kind ++ leB 4 num ++ leB 2 n
def recB (kind:Int) (num:Nat) (l:List UInt8):List UInt8:=
 if rightR kind num l.length=0 then sealL (recH kind.toNat num l.length ++ l) ++ [0] else []
theorem zeb (kind:Int) (num n:Nat) (l:List UInt8) (hn:n=l.length) (h:rightR kind num n≠0):recB kind num l= []:= by subst hn;rw[recB,if_neg h]
theorem zec (kind num n:Nat) (l:List UInt8) (hn:n=l.length) (h:rightR kind num n=0):recB kind num l=sealL (recH kind num n ++ l) ++ [0]:= by subst hn;rw[recB,if_pos h];rfl
theorem zed (kind:Int) (num n:Nat) (h:rightR kind num n=0):1≤kind∧kind≤2∧n≤960∧num≠0∧(kind=2→n=0):= by
 unfold rightR at h
 split at h
 · cases h
 · split at h
   · rename_i h2;exact⟨by omega,by omega,by omega,by assumption,by omega⟩
   · split at h
     · cases h
     · split at h
       · cases h
       · exact⟨by omega,by omega,by omega,by assumption,by omega⟩
theorem zee (kind num n:Nat):(recH kind num n).length=8:=by simp[recH,zan]
theorem zef (A:Option Addr) (n c g x:Nat) (wd:Int) (l:List UInt8) (w:World) (hB:Blk w g 23 #[.slice A n c]) (hn:n=l.length) (hl:n≤100) (hs:Sl w A (l.map bv)) (h1:1≤wd) (h8:wd≤8) (hx:x < 256 ^ wd.toNat) :
 Calls Tryz.prog 187 #[.int .i64 wd,.int .u64 (x:Nat),.pointer (some ⟨g,0,none⟩)] w fun e w'=> ∃ A' n' c',e= .returned (.tuple #[])∧ Blk w' g 23 #[.slice A' n' c']∧ zcd w' w.heap.size A' n' c' (l ++ leB wd.toNat x)∧ Below g w w':=by
 have c0:=hB.cell 0 rfl
 have hg:=hB.lt
 have HP:=zak (zcz A n c l wd x w hn h1 h8 hx (by omega) hs)
 clear hn hx
 go_enter Tryz.func187,Tryz.ntmps187
 go_wp2_with fail
 refine HP.out.mono ?_
 rintro e w1 ⟨A1,n1,c1,rfl,hO1,hb1⟩
 have hB1:=hB.below hb1 hg
 have c1':=hB1.cell 0 rfl
 have f1:=hB1.frozen 0
 go_wp2_with fail
 go_end0
 exact⟨A1,n1,c1,rfl,hB1.set_ 0 _,hO1.set_ (p:=⟨g,0,none⟩) hg _,zbp (hb1.mono (Nat.le_of_lt hg)) (p:=⟨g,0,none⟩) (Nat.le_refl _) _⟩
theorem zeg (A:Option Addr) (kind:Int) (num n c:Nat) (l:List UInt8) (w:World) (hn:n=l.length) (hs:Sl w A (l.map bv)) (hu:U32 num) :
 Calls Tryz.prog 164 #[.agg #[.int .i64 kind,.int .u32 (num:Nat),.slice A n c]] w fun e w'=> ∃ A' n' c',e= .returned (.tuple #[.slice A' n' c',.int .i64 (rightR kind num n)])∧ zcd w' w.heap.size A' n' c' (recB kind num l)∧ Below w.heap.size w w':=by
 obtain⟨er,her⟩:∃ er,er=rightR kind num n:=⟨_,rfl⟩
 have HR:=zak (fun W=>zd4 A kind num n c W)
 rw[← her] at HR ⊢
 by_cases h0:er=0
 · obtain⟨k1,k2,k3,k4,k5⟩:= zed kind num n (by rw[← her];exact h0)
   obtain⟨k,rfl⟩:= Int.eq_ofNat_of_zero_le (show 0≤kind by omega)
   have HB:=zak (zec k num n l hn (by rw[← her];exact h0))
   subst h0
   have hu':num≤4294967295:=by unfold U32 at hu;omega
   have HN:=zak hn
   clear hn her k4 k5
   go_enter Tryz.func164,Tryz.ntmps164
   go_wp2_with fail
   refine (HR.out _).mono ?_
   rintro e w1 ⟨rfl,hb1⟩
   have hbx:=(zbm _ _ _).below hb1 (by simp)
   have b0:=hbx.cell 0 rfl
   have b1:=hbx.cell 1 rfl
   have b2:=hbx.cell 2 rfl
   have z0:=hbx.lt
   have hbw1:=zbd hb1 (zbf (Below.refl w.heap.size w) _)
   have hk:=zbn w1 5 23 #[.int .u8 87] #[.slice (some ⟨w1.heap.size,0,none⟩) 1 1]
   have hbw2:=zbf (zbf hbw1 (.cells #[.int .u8 87] 5)) (.cells #[.slice (some ⟨w1.heap.size,0,none⟩) 1 1] 23)
   have hbx2:=(hbx.alloc (.cells #[.int .u8 87] 5)).alloc (.cells #[.slice (some ⟨w1.heap.size,0,none⟩) 1 1] 23)
   have HK:=zak hk
   clear hk
   go_wp2_with fail
   refine (zef _ 1 1 _ k 1 [87] _ HK.out.2 rfl (by decide) (by exact HK.out.1.sl) (by omega) (by omega) (by rw[p1];omega)).mono ?_
   rintro e w2 ⟨A2,n2,c2,rfl,hB2,hO2,hb2⟩
   have hbx3:=hbx2.below hb2 (by omega)
   have l2:n2≤100:=by rw[hO2.hn];simp[zan]
   have hbw3:=hbw2.trans (hb2.mono (by omega))
   have z2:=hB2.lt
   have d1:=hbx3.cell 1 rfl
   clear b0 b1 b2 hbx hbx2
   go_wp2_with fail
   refine (zef _ _ _ _ num 4 _ _ hB2 hO2.hn l2 hO2.sl (by omega) (by omega) (by rw[p4];omega)).mono ?_
   rintro e w3 ⟨A3,n3,c3,rfl,hB3,hO3,hb3⟩
   have hbx4:=hbx3.below hb3 (by omega)
   have l3:n3≤100:=by rw[hO3.hn];simp[zan]
   have hbw4:=hbw3.trans (hb3.mono (by omega))
   have d2:=hbx4.cell 2 rfl
   clear d1 hbx3
   go_wp2_with fail
   refine (zef _ _ _ _ n 2 _ _ hB3 hO3.hn l3 hO3.sl (by omega) (by omega) (by rw[p2];omega)).mono ?_
   rintro e w4 ⟨A4,n4,c4,rfl,hB4,hO4,hb4⟩
   have hbx5:=hbx4.below hb4 (by omega)
   have l4:n4≤100:=by rw[hO4.hn];simp[zan]
   have hbw5:=hbw4.trans (hb4.mono (by omega))
   have d3:=hbx5.cell 2 rfl
   have d4:=hB4.cell 0 rfl
   have hs5:=hs.below hbw5
   have z3:w.heap.size≤w3.heap.size:=hbw4.size
   clear d2 hbx4
   go_wp2_with (at_builtin;refine zce _ rfl (.tmp 30) (.tmp 32) rfl w.heap.size _ _ _ _ rfl (hO4.mono z3) _ _ _ l rfl HN.out hs5 (by omega) hbw5.size (n4+n) (by omega) ?_;intro A6 c6 w6 hown6 _ _ hb6)
   have hbw6:=hbw5.trans hb6
   refine (zdv A6 _ c6 _ w6 hown6.hn (by omega) hown6.sl).mono ?_
   rintro e w7 ⟨A7,n7,c7,rfl,hO7,hb7⟩
   have hbw7:=zbd hb7 hbw6
   have l7:n7≤1100:=by rw[hO7.hn,zdt,← hown6.hn];omega
   go_wp2_with (at_builtin;refine zce _ rfl (.tmp 34) (.tmp 35) rfl w.heap.size _ _ _ _ rfl ((hO7.mono hbw6.size).alloc _) _ _ _ [0] rfl rfl (Sl.one _ _ _) (by omega) (zbf hbw7 _).size (n7+1) rfl ?_;intro A8 c8 w8 hown8 _ _ hb8)
   go_ret2
   exact⟨A8,n7+1,c8,rfl,by rw[HB.out];exact hown8,(zbf hbw7 _).trans hb8⟩
 · have h0':(er != 0)=true:=by simpa using h0
   have HB:=zak (zeb kind num n l hn (by rw[← her];exact h0))
   clear hn her h0
   go_enter Tryz.func164,Tryz.ntmps164
   go_wp2_with fail
   refine (HR.out _).mono ?_
   rintro e w1 ⟨rfl,hb1⟩
   go_wp2_with fail
   go_ret2
   exact⟨none,0,0,rfl,by rw[HB.out];exact zcd.nil _ _,zbd hb1 (zbf (Below.refl w.heap.size w) _)⟩
end
end Go.Proofs.YtehabbnohoomjaaGreatDoor
