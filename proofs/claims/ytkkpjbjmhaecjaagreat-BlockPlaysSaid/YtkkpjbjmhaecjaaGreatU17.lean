/- None -/
import Derived.Test.YtkkpjbjmhaecjaaGreatU13
import Derived.Laws.BitsAllLaws
namespace Go.Proofs.YtkkpjbjmhaecjaaGreat
set_option linter.all false
set_option maxRecDepth 20000
set_option maxHeartbeats 1000000
section
open Go.RowKit
theorem zi7 (r b:Nat)(hb:b < 2)(hr:U16 r) :
 bits BinOp.xor IntKind.u16 (IntKind.u16.wrap (↑r * 2)) (bits BinOp.and IntKind.u16 4129 (IntKind.u16.wrap (-bits BinOp.xor IntKind.u16 (↑r / 32768) ↑b)))=((c16Bit r b:Nat):Int):=by
 have hr':r < 65536:=hr;have e2:((r:Int) / 32768)=((r / 32768:Nat):Int):=by omega
 have h2:r / 32768 < 2:=by omega
 have e3:IntKind.u16.wrap ((r:Int) * 2)=((r * 2 % 65536:Nat):Int):=by
  rw[show IntKind.u16.wrap ((r:Int) * 2)=((r:Int) * 2) % 65536 from rfl];omega
 have h3:r * 2 % 65536 < 65536:=Nat.mod_lt _ (by decide);rw[e2,u16_xor_nat _ _ (by omega) (by omega),e3];unfold c16Bit;generalize r / 32768=q at *
 generalize r * 2 % 65536=m at *
 have:(q=0∨q=1)∧ (b=0∨b=1):=by omega
 rcases this with ⟨rfl | rfl,rfl | rfl⟩
 · rw[if_pos rfl]
   have:bits BinOp.and IntKind.u16 4129 (IntKind.u16.wrap (-((0 ^^^ 0:Nat):Int)))=((0:Nat):Int):=by decide
   rw[this,u16_xor_nat _ _ h3 (by decide),Nat.xor_zero]
 · rw[if_neg (by decide)]
   have:bits BinOp.and IntKind.u16 4129 (IntKind.u16.wrap (-((0 ^^^ 1:Nat):Int)))=((4129:Nat):Int):=by decide
   rw[this,u16_xor_nat _ _ h3 (by decide)]
 · rw[if_neg (by decide)]
   have:bits BinOp.and IntKind.u16 4129 (IntKind.u16.wrap (-((1 ^^^ 0:Nat):Int)))=((4129:Nat):Int):=by decide
   rw[this,u16_xor_nat _ _ h3 (by decide)]
 · rw[if_pos rfl]
   have:bits BinOp.and IntKind.u16 4129 (IntKind.u16.wrap (-((1 ^^^ 1:Nat):Int)))=((0:Nat):Int):=by decide
   rw[this,u16_xor_nat _ _ h3 (by decide),Nat.xor_zero]
theorem zi8 (b r g N:Nat)(w0 w:World)(hb:b < 2)(hr:U16 r)(hB:Blk w g 28 #[.int .u16 (r:Nat)])(hbel:Below N w0 w)(hN:N≤g) :
 Calls Tryz.prog 155 #[.int .u16 (b:Nat),.pointer (some ⟨g,0,none⟩)] w fun e w'=>e= .returned (.tuple #[])∧ Blk w' g 28 #[.int .u16 (c16Bit r b:Nat)]∧ Below N w0 w':=by
 have c0:=hB.cell 0 rfl;have f0:=hB.frozen 0;go_enter Tryz.func155,Tryz.ntmps155
 go_wp2_with fail
 go_end0
 rw[zi7 r b hb hr];exact⟨rfl,hB.set_ 0 _,zbi hbel hN _⟩
theorem zi9 (c j:Nat)(hc:c < 256):bits BinOp.and IntKind.u16 ((c:Int) / 2 ^ j) 1=((c / 2 ^ j % 2:Nat):Int):=by
 have e:((c:Int) / 2 ^ j)=((c / 2 ^ j:Nat):Int):=by push_cast;rfl
 have h2:c / 2 ^ j≤c:=Nat.div_le_self _ _;rw[e,show (1:Int)=((1:Nat):Int) from rfl,u16_and_nat _ 1 (by omega) (by decide),Nat.and_one_is_mod]
theorem zja (A:Option Addr)(n c r g:Nat)(l:List UInt8)(w0 w:World)(hn:n=l.length)(hl:n≤35184372088832)(hu:U16 r)(hs:Sl w0 A (l.map bv))(hB:Blk w g 28 #[.int .u16 (r:Nat)])(hbel:Below w0.heap.size w0 w)(hg:w0.heap.size≤g) :
 Calls Tryz.prog 154 #[.slice A n c,.func (.func 155) #[] #[.pointer (some ⟨g,0,none⟩)]] w fun e w'=>e= .returned (.tuple #[])∧ Blk w' g 28 #[.int .u16 (c16L r l:Nat)]∧ Below w0.heap.size w0 w':=by
 have HN:=zak hn;clear hn;go_enter Tryz.func154,Tryz.ntmps154
 go_wp2_with fail
 go_loopw [5,6,9] (fun _ _ i wr=> ∃k,k≤n∧i= .int .i64 (k:Nat)∧ Blk wr g 28 #[.int .u16 (c16L r (l.take k):Nat)]∧ Below w0.heap.size w0 wr) (fun _ _ i _=>n - (intOf i).toNat)
 case atStart=>exact⟨0,by omega,rfl,hB,hbel⟩
 case round=>
  clear hB hbel;obtain⟨k,hk,rfl,hB,hbr⟩:=hrel;by_cases hlt:k < n
  · obtain⟨ad,rfl,hcell⟩:=(hs.below hbr).byte (j:=k) (by have:=HN.out;omega);obtain⟨b,hb⟩:∃b,b=(l[k]'(by have:=HN.out;omega)).toNat:=⟨_,rfl⟩;have lb:b < 256:=by rw[hb];exact UInt8.toNat_lt _
    rw[←hb] at hcell;have HK:=zak (show c16L r (l.take (k+1))=c16Bits (c16L r (l.take k)) b 8 by rw[zih _ _ _ (by have:=HN.out;omega),hb]);have hrl:=zif hu (l.take k);obtain⟨r1,hr⟩:∃r1,r1=c16L r (l.take k):=⟨_,rfl⟩;rw[←hr] at HK hB hrl;clear hb hr;go_wp2_with fail
    go_loopw [6] (fun i wr=> ∃j,j≤8∧i= .int .i64 (7 - (j:Nat))∧ Blk wr g 28 #[.int .u16 (c16Bits r1 b j:Nat)]∧ Below w0.heap.size w0 wr) (fun i _=>(intOf i+1).toNat)
    case atStart=>exact⟨0,by omega,rfl,hB,hbr⟩
    case round=>
     clear hbr hB hcell;obtain⟨j,hj,rfl,hB,hbr⟩:=hrel;by_cases hj8:j < 8
     · obtain⟨m,hm⟩:∃m,m=7 - j:=⟨_,rfl⟩;have hm7:m≤7:=by omega
       have hmi:(7:Int) - (j:Nat)=(m:Nat):=by omega
       rw[hmi];have HM:=zak hm;clear hm hmi;go_wp2_with fail
       rw[zi9 b m lb];refine (zi8 (b / 2 ^ m % 2) (c16Bits r1 b j) g w0.heap.size w0 _ (by omega) (zie hrl _ _) hB hbr hg).mono ?_;rintro e w1 ⟨rfl,hB1,hb1⟩;rw[HM.out] at hB1;have hmm:((m:Int) - 1)=7 - ((j+1:Nat):Int):=by have:=HM.out;omega
       have HMM:=zak hmm;clear hmm;go_wp2_with fail
       go_roundw
       case rel=>exact⟨j+1,by omega,by rw[HMM.out],hB1,hb1⟩
       case measure=>have:=HM.out;simp[intOf]<;> omega
     · obtain rfl:j=8:=by omega
       go_wp2_with fail
       go_roundw
       case rel=>exact⟨k+1,by omega,by go_num,by rw[HK.out];exact hB,hbr⟩
       case measure=>simp[intOf];omega
  · obtain rfl:k=n:=by omega
    have HT:=zak (show l.take k=l from List.take_of_length_le (by have:=HN.out;omega));go_wp2_with fail
    go_end0
    exact⟨rfl,by rw[HT.out] at hB;exact hB,hbr⟩
theorem zjb (A:Option Addr)(n c s:Nat)(l:List UInt8)(w:World)(hn:n=l.length)(hl:n≤35184372088832)(hu:U16 s)(hs:Sl w A (l.map bv)) :
 Calls Tryz.prog 96 #[.int .u16 (s:Nat),.slice A n c] w fun e w'=>e= .returned (.int .u16 (c16L s l:Nat))∧ Below w.heap.size w w':=by
 have HN:=zak hn;have HS:=zak hs;have HB:=zak (zbf w 28 #[.int .u16 (s:Nat)]);have HL:=zak (za7 (Below.refl w.heap.size w) (.cells #[.int .u16 (s:Nat)] 28));clear hn hs;go_enter Tryz.func96,Tryz.ntmps96
 go_wp2_with fail
 refine (zja A n c s w.heap.size l w _ HN.out hl hu HS.out HB.out HL.out (Nat.le_refl _)).mono ?_;rintro e w1 ⟨rfl,hB1,hb1⟩;have c0:=hB1.cell 0 rfl;go_wp2_with fail
 go_ret
 exact⟨rfl,hb1⟩
theorem zjc (A:Option Addr)(n c:Nat)(l:List UInt8)(w:World)(hn:n=l.length)(hl:n≤35184372088832)(hs:Sl w A (l.map bv)) :
 Calls Tryz.prog 37 #[.slice A n c] w fun e w'=>e= .returned (.int .u16 (sum16L l:Nat))∧ Below w.heap.size w w':=by
 have h:=zjb A n c 0 l w hn hl (by unfold U16;omega) hs;rw[show (((0:Nat)):Int)=0 from rfl] at h;have HH:=zak h;clear h hn;go_enter Tryz.func37,Tryz.ntmps37
 go_wp2_with fail
 refine HH.out.mono ?_;rintro e w1 ⟨rfl,hb1⟩;go_wp2_with fail
 go_ret
 exact⟨rfl,hb1⟩
theorem zjd (A:Option Addr)(n c s:Nat)(l:List UInt8)(w:World)(hn:n=l.length)(hl:n≤35184372088832)(hs:Sl w A (l.map bv)) :
 Calls Tryz.prog 152 #[.slice A n c,.int .u16 (s:Nat)] w fun e w'=>e= .returned (.bool (decide (sum16L l=s)))∧ Below w.heap.size w w':=by
 have HH:=zak (zjc A n c l w hn hl hs);clear hn;go_enter Tryz.func152,Tryz.ntmps152
 go_wp2_with fail
 refine HH.out.mono ?_;rintro e w1 ⟨rfl,hb1⟩;by_cases he:sum16L l=s
 · have hb:((sum16L l:Int) == (s:Int))=true:=by simp[he]
   go_wp2_with fail
   go_ret
   exact⟨by simp[he],hb1⟩
 · have hb:((sum16L l:Int) == (s:Int))=false:=by simp;omega
   go_wp2_with fail
   go_ret
   exact⟨by simp[he],hb1⟩
end
end Go.Proofs.YtkkpjbjmhaecjaaGreat
