/- None -/
import Derived.Test.YthdbckbpldlkeaaGreatS06
import Derived.Deep.DeepCutAuto
import Derived.Deep.CutBlock
namespace Go.Proofs.YthdbckbpldlkeaaGreat
set_option linter.unusedVariables false
set_option linter.unusedSimpArgs false
set_option linter.unnecessarySimpa false
section
open Go.RowKit
set_option maxRecDepth 100000
set_option maxHeartbeats 4000000
def GuessR (k:Int) (b:List UInt8) (w:World) (e:Ending) (w':World):Prop:=
 ∃ A' n' c',e= .returned (.agg (msV (guessM k b) A' n' c'))∧ zdq w' w.heap.size A' n' c' (guessM k b).data∧Below w.heap.size w w'
def GuessC (k:Int) (b0 b1 b2 b3 b4 b5 b6 b7:UInt8) (W:World) (p:Value) (wx:World):Prop:=
 p= .pointer (some ⟨W.heap.size,0,none⟩)∧ Blk wx W.heap.size 102 (msV ⟨k,(leN [b1,b2]:Nat),(b3.toNat:Nat),decide (b0.toNat / 16 % 2=1),false,decide (b0.toNat / 4 % 2=1),false,leN [b4,b5,b6,b7],leN [b4,b5,b6,b7],[],0,0,0,0⟩ none 0 0)∧ Below W.heap.size W wx
theorem zey (a b:Nat) (ha:a < 256) (hb:b < 256):(bits .and .u8 (a:Int) (b:Int) != 0)=(a &&& b != 0):= by
 rw[u8_and_nat a b ha hb]
 rw[Bool.eq_iff_iff]
 simp
theorem zez (b:UInt8):wrap64 (4 - wrap64 (bits BinOp.and .u8 (b.toNat / 4) 3))=((4 - b.toNat / 4 % 4:Nat):Int):= by
 have hb:=b.toNat_lt
 have h:=u8_and_nat (b.toNat / 4) 3 (by omega) (by omega)
 rw[(zcr _ hb).2.2.2.2.2.2.1] at h
 rw[show bits BinOp.and .u8 ((b.toNat:Int) / 4) 3=((b.toNat / 4 % 4:Nat):Int) from h,IntWalk.wrap64_in ((b.toNat / 4 % 4:Nat):Int) (by omega),IntWalk.wrap64_in _ (by omega)]
 omega
theorem ze0 (b:UInt8):(7 - (b.toNat:Int) / 2 % 8)=((7 - b.toNat / 2 % 8:Nat):Int):= by omega
theorem ze1 {w:World} {B n c g:Nat} {A:Option Addr} {l:List UInt8} (h:zdq w B A n c l) (hg:g < B) (u0 u1 u2 u3 u4 u5 u6 u7 u8 u9 u10 u11 u12 u13:Value):zdq ((((((((((((((w.setCell ⟨g,0,none⟩ u0).setCell ⟨g,1,none⟩ u1).setCell ⟨g,2,none⟩ u2).setCell ⟨g,3,none⟩ u3).setCell ⟨g,4,none⟩ u4).setCell ⟨g,5,none⟩ u5).setCell ⟨g,6,none⟩ u6).setCell ⟨g,7,none⟩ u7).setCell ⟨g,8,none⟩ u8).setCell ⟨g,9,none⟩ u9).setCell ⟨g,10,none⟩ u10).setCell ⟨g,11,none⟩ u11).setCell ⟨g,12,none⟩ u12).setCell ⟨g,13,none⟩ u13) B A n c l:=((((((((((((((h.set_ (p:=⟨g,0,none⟩) hg u0).set_ (p:=⟨g,1,none⟩) hg u1).set_ (p:=⟨g,2,none⟩) hg u2).set_ (p:=⟨g,3,none⟩) hg u3).set_ (p:=⟨g,4,none⟩) hg u4).set_ (p:=⟨g,5,none⟩) hg u5).set_ (p:=⟨g,6,none⟩) hg u6).set_ (p:=⟨g,7,none⟩) hg u7).set_ (p:=⟨g,8,none⟩) hg u8).set_ (p:=⟨g,9,none⟩) hg u9).set_ (p:=⟨g,10,none⟩) hg u10).set_ (p:=⟨g,11,none⟩) hg u11).set_ (p:=⟨g,12,none⟩) hg u12).set_ (p:=⟨g,13,none⟩) hg u13)
theorem ze2 {x:Nat} (h:x < 4294967296):IntKind.i64.wrap (x:Int)=x∧IntKind.u32.wrap (x:Int)=x∧IntKind.u64.wrap (x:Int)=x:=by
 refine⟨IntWalk.i64_in _ (by omega),?_,?_⟩
 · rw[IntKind.wrap_u32];omega
 · rw[IntKind.wrap_u64];omega
theorem ze3 (k:Int) (b0 b1 b2 b3 b4 b5 b6 b7:UInt8) (hf:formI k=0):guessM k [b0,b1,b2,b3,b4,b5,b6,b7]=onlyM 0 ⟨k,(leN [b1,b2]:Nat),(b3.toNat:Nat),decide (b0.toNat / 16 % 2=1),false,decide (b0.toNat / 4 % 2=1),false,leN [b4,b5,b6,b7],leN [b4,b5,b6,b7],[],0,0,0,0⟩:= by
 skip
 simp[guessM,preM,hf,byt,datF,datN,onlyM,placedB,dataB]
theorem ze4 (k:Int) (b0 b1 b2 b3 b4 b5 b6 b7:UInt8) (hf:formI k=1):guessM k [b0,b1,b2,b3,b4,b5,b6,b7]=onlyM 1 ⟨k,(leN [b1,b2]:Nat),(b3.toNat:Nat),decide (b0.toNat / 16 % 2=1),false,decide (b0.toNat / 4 % 2=1),false,leN [b4,b5,b6,b7],leN [b4,b5,b6,b7],[],0,0,0,0⟩:= by
 skip
 simp[guessM,preM,hf,byt,datF,datN,onlyM,placedB,dataB]
theorem ze5 (k:Int) (b0 b1 b2 b3 b4 b5 b6 b7:UInt8) (hf:formI k=2) (h2:b0.toNat / 2 % 2=1):guessM k [b0,b1,b2,b3,b4,b5,b6,b7]=onlyM 2 ⟨k,(leN [b1,b2]:Nat),(b3.toNat:Nat),decide (b0.toNat / 16 % 2=1),false,decide (b0.toNat / 4 % 2=1),decide (b0.toNat % 2=1),leN [b4,b5,b6,b7],leN [b4,b5,b6,b7],([b0,b1,b2,b3,b4,b5,b6,b7].drop 4).take (4 - b0.toNat / 4 % 4),0,0,0,0⟩:= by
 skip
 simp[guessM,preM,hf,byt,datF,datN,onlyM,placedB,dataB,h2]
theorem ze6 (k:Int) (b0 b1 b2 b3 b4 b5 b6 b7:UInt8) (hf:formI k=2) (h2: ¬ b0.toNat / 2 % 2=1):guessM k [b0,b1,b2,b3,b4,b5,b6,b7]=onlyM 2 ⟨k,(leN [b1,b2]:Nat),(b3.toNat:Nat),decide (b0.toNat / 16 % 2=1),false,decide (b0.toNat / 4 % 2=1),decide (b0.toNat % 2=1),leN [b4,b5,b6,b7],leN [b4,b5,b6,b7],[],0,0,0,0⟩:= by
 skip
 simp[guessM,preM,hf,byt,datF,datN,onlyM,placedB,dataB,h2]
theorem ze7 (k:Int) (b0 b1 b2 b3 b4 b5 b6 b7:UInt8) (hf:formI k=3):guessM k [b0,b1,b2,b3,b4,b5,b6,b7]=onlyM 3 ⟨k,(leN [b1,b2]:Nat),(b3.toNat:Nat),decide (b0.toNat / 16 % 2=1),decide (b0.toNat % 2=1),decide (b0.toNat / 4 % 2=1),false,leN [b4,b5,b6,b7],leN [b4,b5,b6,b7],([b0,b1,b2,b3,b4,b5,b6,b7].drop 1).take (7 - b0.toNat / 2 % 8),0,0,0,0⟩:= by
 skip
 simp[guessM,preM,hf,byt,datF,datN,onlyM,placedB,dataB]
theorem ze8 (k:Int) (b0 b1 b2 b3 b4 b5 b6 b7:UInt8) (hf:formI k=4):guessM k [b0,b1,b2,b3,b4,b5,b6,b7]=onlyM 4 ⟨k,(leN [b1,b2]:Nat),(b3.toNat:Nat),decide (b0.toNat / 16 % 2=1),false,decide (b0.toNat / 4 % 2=1),false,leN [b4,b5,b6,b7],leN [b4,b5,b6,b7],[],0,0,0,0⟩:= by
 skip
 simp[guessM,preM,hf,byt,datF,datN,onlyM,placedB,dataB]
theorem ze9 (k:Int) (b0 b1 b2 b3 b4 b5 b6 b7:UInt8) (hf:formI k=5):guessM k [b0,b1,b2,b3,b4,b5,b6,b7]=onlyM 5 ⟨k,(leN [b1,b2]:Nat),(b3.toNat:Nat),decide (b0.toNat / 16 % 2=1),false,decide (b0.toNat / 4 % 2=1),false,leN [b4,b5,b6,b7],leN [b4,b5,b6,b7],[],0,0,0,0⟩:= by
 skip
 simp[guessM,preM,hf,byt,datF,datN,onlyM,placedB,dataB]
theorem zfa (k:Int) (b0 b1 b2 b3 b4 b5 b6 b7:UInt8) (hf:formI k=6):guessM k [b0,b1,b2,b3,b4,b5,b6,b7]=onlyM 6 ⟨k,(leN [b1,b2]:Nat),(b3.toNat:Nat),decide (b0.toNat / 16 % 2=1),false,decide (b0.toNat / 4 % 2=1),decide (b0.toNat / 2 % 2=1),leN [b4,b5,b6,b7],leN [b4,b5,b6,b7],[],0,0,0,0⟩:= by
 skip
 simp[guessM,preM,hf,byt,datF,datN,onlyM,placedB,dataB]
theorem zfb (k:Int) (b0 b1 b2 b3 b4 b5 b6 b7:UInt8) (hf:formI k=7):guessM k [b0,b1,b2,b3,b4,b5,b6,b7]=onlyM 7 ⟨k,(leN [b1,b2]:Nat),(b3.toNat:Nat),decide (b0.toNat / 16 % 2=1),false,decide (b0.toNat / 4 % 2=1),false,leN [b4,b5,b6,b7],leN [b4,b5,b6,b7],[],0,0,((b0.toNat:Int) / 4 % 8),leN [b1,b2]⟩:= by
 skip
 simp[guessM,preM,hf,byt,datF,datN,onlyM,placedB,dataB]
theorem zfc (k:Int) (b0 b1 b2 b3 b4 b5 b6 b7:UInt8) (hf:formI k=8):guessM k [b0,b1,b2,b3,b4,b5,b6,b7]=onlyM 8 ⟨k,(leN [b1,b2]:Nat),(b3.toNat:Nat),decide (b0.toNat / 16 % 2=1),false,decide (b0.toNat / 4 % 2=1),false,leN [b4,b5,b6,b7],leN [b4,b5,b6,b7],[],0,(b4.toNat:Int),0,0⟩:= by
 skip
 simp[guessM,preM,hf,byt,datF,datN,onlyM,placedB,dataB]
theorem zfd (k:Int) (b0 b1 b2 b3 b4 b5 b6 b7:UInt8) (hf:formI k=9):guessM k [b0,b1,b2,b3,b4,b5,b6,b7]=onlyM 9 ⟨k,(leN [b1,b2]:Nat),(b3.toNat:Nat),decide (b0.toNat / 16 % 2=1),false,decide (b0.toNat / 4 % 2=1),false,leN [b4,b5,b6,b7],leN [b4,b5,b6,b7],[],(b1.toNat:Int),(b2.toNat:Int),0,0⟩:= by
 skip
 simp[guessM,preM,hf,byt,datF,datN,onlyM,placedB,dataB]
theorem zfe (k:Int) (b0 b1 b2 b3 b4 b5 b6 b7:UInt8) (hf:formI k=10):guessM k [b0,b1,b2,b3,b4,b5,b6,b7]=onlyM 10 ⟨k,(leN [b1,b2]:Nat),(b3.toNat:Nat),decide (b0.toNat / 16 % 2=1),false,decide (b0.toNat / 4 % 2=1),false,leN [b4,b5,b6,b7],leN [b4,b5,b6,b7],[],0,0,0,0⟩:= by
 skip
 simp[guessM,preM,hf,byt,datF,datN,onlyM,placedB,dataB]
theorem zff (k:Int) (b0 b1 b2 b3 b4 b5 b6 b7:UInt8) (hf:formI k=11):guessM k [b0,b1,b2,b3,b4,b5,b6,b7]=onlyM 11 ⟨k,(leN [b1,b2]:Nat),(b3.toNat:Nat),decide (b0.toNat / 16 % 2=1),decide (128≤b0.toNat),decide (b0.toNat / 4 % 2=1),false,leN [b4,b5,b6,b7],leN [b4,b5,b6,b7],([b0,b1,b2,b3,b4,b5,b6,b7].drop 1).take 7,(wrap64 (bits .and .u8 (b0.toNat:Int) 127)),0,0,0⟩:= by
 have hb0:=b0.toNat_lt
 have h7:=u8_and_nat b0.toNat 127 (by omega) (by omega)
 rw[(zcr _ hb0).2.2.2.2.2.1] at h7
 rw[show wrap64 (bits .and .u8 (b0.toNat:Int) 127)=((b0.toNat % 128:Nat):Int) from (congrArg wrap64 h7).trans (IntWalk.wrap64_in _ (by omega))]
 simp[guessM,preM,hf,byt,datF,datN,onlyM,placedB,dataB]
end
end Go.Proofs.YthdbckbpldlkeaaGreat
