/- None -/
import Derived.Test.YtkkpjbjmhaecjaaGreatT06
import Derived.Deep.DeepCutAuto
import Derived.Deep.CutBlock
namespace Go.Proofs.YtkkpjbjmhaecjaaGreat
set_option linter.all false
set_option maxRecDepth 100000
set_option maxHeartbeats 4000000
section
open Go.RowKit
theorem zff (M:Ms)(A:Option Addr)(n c:Nat)(w:World)(hn:n=M.data.length):Calls Tryz.prog 229 #[.int .i64 9,.agg (msV M A n c)] w (OnlyR 9 M A n c w):=by
 obtain⟨kind,ix,sub,tg,la,cr,sz,size,code,data,sq,bl,em,sum⟩:=M;simp only[msV] at *
 clear hn;go_enter Tryz.func229,Tryz.ntmps229
 go_wp2_with fail
 refine (ze4 9 _).mono ?_;rintro e w1 ⟨rfl,rfl⟩;go_wp2_with fail
 go_region
 all_goals go_wp2_with fail
 refine bodyPost_ret (v:= .agg (msV (onlyM 9 ⟨kind,ix,sub,tg,la,cr,sz,size,code,data,sq,bl,em,sum⟩) none 0 0)) (by simp[results,Tryz.results229,go_sem,msV,onlyM,placedB,dataB]) rfl ⟨rfl,kBl⟩
theorem zfg (M:Ms)(A:Option Addr)(n c:Nat)(w:World)(hn:n=M.data.length):Calls Tryz.prog 229 #[.int .i64 10,.agg (msV M A n c)] w (OnlyR 10 M A n c w):=by
 obtain⟨kind,ix,sub,tg,la,cr,sz,size,code,data,sq,bl,em,sum⟩:=M;simp only[msV] at *
 clear hn;go_enter Tryz.func229,Tryz.ntmps229
 go_wp2_with fail
 refine (ze4 10 _).mono ?_;rintro e w1 ⟨rfl,rfl⟩;go_wp2_with fail
 refine bodyPost_ret (v:= .agg (msV (onlyM 10 ⟨kind,ix,sub,tg,la,cr,sz,size,code,data,sq,bl,em,sum⟩) none 0 0)) (by simp[results,Tryz.results229,go_sem,msV,onlyM,placedB,dataB]) rfl ⟨rfl,kBl⟩
theorem zfh (M:Ms)(A:Option Addr)(n c:Nat)(w:World)(hn:n=M.data.length):Calls Tryz.prog 229 #[.int .i64 11,.agg (msV M A n c)] w (OnlyR 11 M A n c w):=by
 obtain⟨kind,ix,sub,tg,la,cr,sz,size,code,data,sq,bl,em,sum⟩:=M;simp only[msV] at *
 clear hn;go_enter Tryz.func229,Tryz.ntmps229
 go_wp2_with fail
 refine (ze4 11 _).mono ?_;rintro e w1 ⟨rfl,rfl⟩;go_wp2_with fail
 go_region
 all_goals go_wp2_with fail
 refine bodyPost_ret (v:= .agg (msV (onlyM 11 ⟨kind,ix,sub,tg,la,cr,sz,size,code,data,sq,bl,em,sum⟩) A n c)) (by simp[results,Tryz.results229,go_sem,msV,onlyM,placedB,dataB]) rfl ⟨rfl,kBl⟩
end
section
open Go.RowKit
theorem zfi (k:Int)(M:Ms)(A:Option Addr)(n c:Nat)(w:World)(hn:n=M.data.length):Calls Tryz.prog 229 #[.int .i64 (formI k),.agg (msV M A n c)] w (OnlyR (formI k) M A n c w):=by
 have h:=zcg k;generalize formI k=f at *
 rcases (show f=0∨f=1∨f=2∨f=3∨f=4∨f=5∨f=6∨f=7∨f=8∨f=9∨f=10∨f=11 by omega) with rfl | rfl | rfl | rfl | rfl | rfl | rfl | rfl | rfl | rfl | rfl | rfl
 · exact ze6 M A n c w hn
 · exact ze7 M A n c w hn
 · exact ze8 M A n c w hn
 · exact ze9 M A n c w hn
 · exact zfa M A n c w hn
 · exact zfb M A n c w hn
 · exact zfc M A n c w hn
 · exact zfd M A n c w hn
 · exact zfe M A n c w hn
 · exact zff M A n c w hn
 · exact zfg M A n c w hn
 · exact zfh M A n c w hn
end
section
open Go.RowKit
def GuessR (k:Int) (b:List UInt8) (w:World) (e:Ending) (w':World):Prop:=
 ∃A' n' c',e= .returned (.agg (msV (guessM k b) A' n' c'))∧ zdv w' w.heap.size A' n' c' (guessM k b).data∧Below w.heap.size w w'
def GuessC (k:Int) (b0 b1 b2 b3 b4 b5 b6 b7:UInt8) (W:World) (p:Value) (wx:World):Prop:=
 p= .pointer (some ⟨W.heap.size,0,none⟩)∧ Blk wx W.heap.size 95 (msV ⟨k,(leN [b1,b2]:Nat),(b3.toNat:Nat),decide (b0.toNat / 16 % 2=1),false,decide (b0.toNat / 4 % 2=1),false,leN [b4,b5,b6,b7],leN [b4,b5,b6,b7],[],0,0,0,0⟩ none 0 0)∧ Below W.heap.size W wx
theorem zfj (a b:Nat)(ha:a < 256)(hb:b < 256):(bits .and .u8 (a:Int) (b:Int) != 0)=(a &&& b != 0):=by
 rw[u8_and_nat a b ha hb];rw[Bool.eq_iff_iff]
 simp
theorem zfk (b:UInt8):wrap64 (4 - wrap64 (bits BinOp.and .u8 (b.toNat / 4) 3))=((4 - b.toNat / 4 % 4:Nat):Int):=by
 have hb:=b.toNat_lt;have h:=u8_and_nat (b.toNat / 4) 3 (by omega) (by omega);rw[(zcv _ hb).2.2.2.2.2.2.1] at h;rw[show bits BinOp.and .u8 ((b.toNat:Int) / 4) 3=((b.toNat / 4 % 4:Nat):Int) from h,IntWalk.wrap64_in ((b.toNat / 4 % 4:Nat):Int) (by omega),IntWalk.wrap64_in _ (by omega)];omega
theorem zfl (b:UInt8):(7 - (b.toNat:Int) / 2 % 8)=((7 - b.toNat / 2 % 8:Nat):Int):=by omega
theorem zfm {w:World}{B n c g:Nat}{A:Option Addr}{l:List UInt8}(h:zdv w B A n c l)(hg:g < B)(u0 u1 u2 u3 u4 u5 u6 u7 u8 u9 u10 u11 u12 u13:Value):zdv ((((((((((((((w.setCell ⟨g,0,none⟩ u0).setCell ⟨g,1,none⟩ u1).setCell ⟨g,2,none⟩ u2).setCell ⟨g,3,none⟩ u3).setCell ⟨g,4,none⟩ u4).setCell ⟨g,5,none⟩ u5).setCell ⟨g,6,none⟩ u6).setCell ⟨g,7,none⟩ u7).setCell ⟨g,8,none⟩ u8).setCell ⟨g,9,none⟩ u9).setCell ⟨g,10,none⟩ u10).setCell ⟨g,11,none⟩ u11).setCell ⟨g,12,none⟩ u12).setCell ⟨g,13,none⟩ u13) B A n c l:=((((((((((((((h.set_ (p:=⟨g,0,none⟩) hg u0).set_ (p:=⟨g,1,none⟩) hg u1).set_ (p:=⟨g,2,none⟩) hg u2).set_ (p:=⟨g,3,none⟩) hg u3).set_ (p:=⟨g,4,none⟩) hg u4).set_ (p:=⟨g,5,none⟩) hg u5).set_ (p:=⟨g,6,none⟩) hg u6).set_ (p:=⟨g,7,none⟩) hg u7).set_ (p:=⟨g,8,none⟩) hg u8).set_ (p:=⟨g,9,none⟩) hg u9).set_ (p:=⟨g,10,none⟩) hg u10).set_ (p:=⟨g,11,none⟩) hg u11).set_ (p:=⟨g,12,none⟩) hg u12).set_ (p:=⟨g,13,none⟩) hg u13)
theorem zfn {x:Nat}(h:x < 4294967296):IntKind.i64.wrap (x:Int)=x∧IntKind.u32.wrap (x:Int)=x∧IntKind.u64.wrap (x:Int)=x:=by
 refine⟨IntWalk.i64_in _ (by omega),?_,?_⟩
 · rw[IntKind.wrap_u32];omega
 · rw[IntKind.wrap_u64];omega
theorem zfo (k:Int)(b0 b1 b2 b3 b4 b5 b6 b7:UInt8)(hf:formI k=0):guessM k [b0,b1,b2,b3,b4,b5,b6,b7]=onlyM 0 ⟨k,(leN [b1,b2]:Nat),(b3.toNat:Nat),decide (b0.toNat / 16 % 2=1),false,decide (b0.toNat / 4 % 2=1),false,leN [b4,b5,b6,b7],leN [b4,b5,b6,b7],[],0,0,0,0⟩:=by
 skip
 simp[guessM,preM,hf,byt,datF,datN,onlyM,placedB,dataB]
theorem zfp (k:Int)(b0 b1 b2 b3 b4 b5 b6 b7:UInt8)(hf:formI k=1):guessM k [b0,b1,b2,b3,b4,b5,b6,b7]=onlyM 1 ⟨k,(leN [b1,b2]:Nat),(b3.toNat:Nat),decide (b0.toNat / 16 % 2=1),false,decide (b0.toNat / 4 % 2=1),false,leN [b4,b5,b6,b7],leN [b4,b5,b6,b7],[],0,0,0,0⟩:=by
 skip
 simp[guessM,preM,hf,byt,datF,datN,onlyM,placedB,dataB]
theorem zfq (k:Int)(b0 b1 b2 b3 b4 b5 b6 b7:UInt8)(hf:formI k=2)(h2:b0.toNat / 2 % 2=1):guessM k [b0,b1,b2,b3,b4,b5,b6,b7]=onlyM 2 ⟨k,(leN [b1,b2]:Nat),(b3.toNat:Nat),decide (b0.toNat / 16 % 2=1),false,decide (b0.toNat / 4 % 2=1),decide (b0.toNat % 2=1),leN [b4,b5,b6,b7],leN [b4,b5,b6,b7],([b0,b1,b2,b3,b4,b5,b6,b7].drop 4).take (4 - b0.toNat / 4 % 4),0,0,0,0⟩:=by
 skip
 simp[guessM,preM,hf,byt,datF,datN,onlyM,placedB,dataB,h2]
theorem zfr (k:Int)(b0 b1 b2 b3 b4 b5 b6 b7:UInt8)(hf:formI k=2)(h2: ¬b0.toNat / 2 % 2=1):guessM k [b0,b1,b2,b3,b4,b5,b6,b7]=onlyM 2 ⟨k,(leN [b1,b2]:Nat),(b3.toNat:Nat),decide (b0.toNat / 16 % 2=1),false,decide (b0.toNat / 4 % 2=1),decide (b0.toNat % 2=1),leN [b4,b5,b6,b7],leN [b4,b5,b6,b7],[],0,0,0,0⟩:=by
 skip
 simp[guessM,preM,hf,byt,datF,datN,onlyM,placedB,dataB,h2]
theorem zfs (k:Int)(b0 b1 b2 b3 b4 b5 b6 b7:UInt8)(hf:formI k=3):guessM k [b0,b1,b2,b3,b4,b5,b6,b7]=onlyM 3 ⟨k,(leN [b1,b2]:Nat),(b3.toNat:Nat),decide (b0.toNat / 16 % 2=1),decide (b0.toNat % 2=1),decide (b0.toNat / 4 % 2=1),false,leN [b4,b5,b6,b7],leN [b4,b5,b6,b7],([b0,b1,b2,b3,b4,b5,b6,b7].drop 1).take (7 - b0.toNat / 2 % 8),0,0,0,0⟩:=by
 skip
 simp[guessM,preM,hf,byt,datF,datN,onlyM,placedB,dataB]
theorem zft (k:Int)(b0 b1 b2 b3 b4 b5 b6 b7:UInt8)(hf:formI k=4):guessM k [b0,b1,b2,b3,b4,b5,b6,b7]=onlyM 4 ⟨k,(leN [b1,b2]:Nat),(b3.toNat:Nat),decide (b0.toNat / 16 % 2=1),false,decide (b0.toNat / 4 % 2=1),false,leN [b4,b5,b6,b7],leN [b4,b5,b6,b7],[],0,0,0,0⟩:=by
 skip
 simp[guessM,preM,hf,byt,datF,datN,onlyM,placedB,dataB]
theorem zfu (k:Int)(b0 b1 b2 b3 b4 b5 b6 b7:UInt8)(hf:formI k=5):guessM k [b0,b1,b2,b3,b4,b5,b6,b7]=onlyM 5 ⟨k,(leN [b1,b2]:Nat),(b3.toNat:Nat),decide (b0.toNat / 16 % 2=1),false,decide (b0.toNat / 4 % 2=1),false,leN [b4,b5,b6,b7],leN [b4,b5,b6,b7],[],0,0,0,0⟩:=by
 skip
 simp[guessM,preM,hf,byt,datF,datN,onlyM,placedB,dataB]
theorem zfv (k:Int)(b0 b1 b2 b3 b4 b5 b6 b7:UInt8)(hf:formI k=6):guessM k [b0,b1,b2,b3,b4,b5,b6,b7]=onlyM 6 ⟨k,(leN [b1,b2]:Nat),(b3.toNat:Nat),decide (b0.toNat / 16 % 2=1),false,decide (b0.toNat / 4 % 2=1),decide (b0.toNat / 2 % 2=1),leN [b4,b5,b6,b7],leN [b4,b5,b6,b7],[],0,0,0,0⟩:=by
 skip
 simp[guessM,preM,hf,byt,datF,datN,onlyM,placedB,dataB]
theorem zfw (k:Int)(b0 b1 b2 b3 b4 b5 b6 b7:UInt8)(hf:formI k=7):guessM k [b0,b1,b2,b3,b4,b5,b6,b7]=onlyM 7 ⟨k,(leN [b1,b2]:Nat),(b3.toNat:Nat),decide (b0.toNat / 16 % 2=1),false,decide (b0.toNat / 4 % 2=1),false,leN [b4,b5,b6,b7],leN [b4,b5,b6,b7],[],0,0,((b0.toNat:Int) / 4 % 8),leN [b1,b2]⟩:=by
 skip
 simp[guessM,preM,hf,byt,datF,datN,onlyM,placedB,dataB]
theorem zfx (k:Int)(b0 b1 b2 b3 b4 b5 b6 b7:UInt8)(hf:formI k=8):guessM k [b0,b1,b2,b3,b4,b5,b6,b7]=onlyM 8 ⟨k,(leN [b1,b2]:Nat),(b3.toNat:Nat),decide (b0.toNat / 16 % 2=1),false,decide (b0.toNat / 4 % 2=1),false,leN [b4,b5,b6,b7],leN [b4,b5,b6,b7],[],0,(b4.toNat:Int),0,0⟩:=by
 skip
 simp[guessM,preM,hf,byt,datF,datN,onlyM,placedB,dataB]
theorem zfy (k:Int)(b0 b1 b2 b3 b4 b5 b6 b7:UInt8)(hf:formI k=9):guessM k [b0,b1,b2,b3,b4,b5,b6,b7]=onlyM 9 ⟨k,(leN [b1,b2]:Nat),(b3.toNat:Nat),decide (b0.toNat / 16 % 2=1),false,decide (b0.toNat / 4 % 2=1),false,leN [b4,b5,b6,b7],leN [b4,b5,b6,b7],[],(b1.toNat:Int),(b2.toNat:Int),0,0⟩:=by
 skip
 simp[guessM,preM,hf,byt,datF,datN,onlyM,placedB,dataB]
theorem zfz (k:Int)(b0 b1 b2 b3 b4 b5 b6 b7:UInt8)(hf:formI k=10):guessM k [b0,b1,b2,b3,b4,b5,b6,b7]=onlyM 10 ⟨k,(leN [b1,b2]:Nat),(b3.toNat:Nat),decide (b0.toNat / 16 % 2=1),false,decide (b0.toNat / 4 % 2=1),false,leN [b4,b5,b6,b7],leN [b4,b5,b6,b7],[],0,0,0,0⟩:=by
 skip
 simp[guessM,preM,hf,byt,datF,datN,onlyM,placedB,dataB]
theorem zf0 (k:Int)(b0 b1 b2 b3 b4 b5 b6 b7:UInt8)(hf:formI k=11):guessM k [b0,b1,b2,b3,b4,b5,b6,b7]=onlyM 11 ⟨k,(leN [b1,b2]:Nat),(b3.toNat:Nat),decide (b0.toNat / 16 % 2=1),decide (128≤b0.toNat),decide (b0.toNat / 4 % 2=1),false,leN [b4,b5,b6,b7],leN [b4,b5,b6,b7],([b0,b1,b2,b3,b4,b5,b6,b7].drop 1).take 7,(wrap64 (bits .and .u8 (b0.toNat:Int) 127)),0,0,0⟩:=by
 have hb0:=b0.toNat_lt;have h7:=u8_and_nat b0.toNat 127 (by omega) (by omega);rw[(zcv _ hb0).2.2.2.2.2.1] at h7;rw[show wrap64 (bits .and .u8 (b0.toNat:Int) 127)=((b0.toNat % 128:Nat):Int) from (congrArg wrap64 h7).trans (IntWalk.wrap64_in _ (by omega))];simp[guessM,preM,hf,byt,datF,datN,onlyM,placedB,dataB]
end
section
open Go.RowKit
theorem zf1 (k:Int)(A:Option Addr)(n c:Nat)(b:List UInt8)(w:World)(hn:n=b.length)(h8:b.length=8)(hc:n≤c)(hs:Sl w A (b.map bv))(f:Int)(hf:formI k=f)(hg:f=0∨f=1∨f=4∨f=5∨f=10) :
 Calls Tryz.prog 224 #[.int .i64 k,.slice A n c] w (GuessR k b w):=by
 obtain rfl:n=8:=by omega
 obtain⟨b0,b1,b2,b3,b4,b5,b6,b7,rfl⟩:∃b0 b1 b2 b3 b4 b5 b6 b7:UInt8,b= [b0,b1,b2,b3,b4,b5,b6,b7]:=by
  rcases b with _ | ⟨b0,_ | ⟨b1,_ | ⟨b2,_ | ⟨b3,_ | ⟨b4,_ | ⟨b5,_ | ⟨b6,_ | ⟨b7,r⟩⟩⟩⟩⟩⟩⟩⟩<;> simp at h8 ⊢
  exact h8
 have q1:=hs.byte_ (j:=0) (by simp);obtain⟨gb,go,rfl,q0⟩:=q1;have r3:=hs.byte_ (j:=3) (by simp);obtain⟨gb',go',e3,r3⟩:=r3;injection e3 with e3
 injection e3 with e3 e4
 subst e3 e4;simp only[List.getElem_cons_zero,List.getElem_cons_succ,Nat.add_zero] at q0 r3;have lgb:=zal q0;have HF:=zak hf;have HG1:=zak (fun W h=>ze1 (some ⟨gb,go,none⟩) 8 c [b0,b1,b2,b3,b4,b5,b6,b7] 1 2 w.heap.size W hn hc (by omega) (by omega) (by omega) (by omega) (by omega) h);have HG4:=zak (fun W h=>ze1 (some ⟨gb,go,none⟩) 8 c [b0,b1,b2,b3,b4,b5,b6,b7] 4 4 w.heap.size W hn hc (by omega) (by omega) (by omega) (by omega) (by omega) h);have hb0:=b0.toNat_lt;have hb3:=b3.toNat_lt;have HX2:Hid (IntKind.i64.wrap ((leN [b1,b2]:Nat):Int)=((leN [b1,b2]:Nat):Int)):=zak (zfn (by have:=zan [b1,b2];simp only[List.length_cons,List.length_nil] at this;omega)).1
 have HX4:Hid (IntKind.u32.wrap ((leN [b4,b5,b6,b7]:Nat):Int)=((leN [b4,b5,b6,b7]:Nat):Int)):=zak (zfn (by have:=zan [b4,b5,b6,b7];simp only[List.length_cons,List.length_nil] at this;omega)).2.1;have HX3:Hid (IntKind.i64.wrap (b3.toNat:Int)=(b3.toNat:Int)):=zak (zfn (by omega)).1;have HT16:Hid ((bits .and .u8 (b0.toNat:Int) 16 != 0)=decide (b0.toNat / 16 % 2=1)):=zak ((zfj b0.toNat 16 hb0 (by omega)).trans (zcv _ hb0).1);have HT4:Hid ((bits .and .u8 (b0.toNat:Int) 4 != 0)=decide (b0.toNat / 4 % 2=1)):=zak ((zfj b0.toNat 4 hb0 (by omega)).trans (zcv _ hb0).2.1);have HGG:=zak hg;clear hn h8 hf hg
 go_enter Tryz.func224,Tryz.ntmps224
 go_wp2_with fail
 refine (ze3 k _).mono ?_;rintro e w1 ⟨rfl,rfl⟩;rw[HF.out];go_upto_region 4 with fail
 obtain⟨q0',q1'⟩:=zdh w 27 95 #[.slice (some ⟨gb,go,none⟩) 8 c] (msV msZ none 0 0);have hbw:Below w.heap.size w ((w.alloc (.cells #[.slice (some ⟨gb,go,none⟩) 8 c] 27)).alloc (.cells (msV msZ none 0 0) 95)):=kBl;have hs1:Sl ((w.alloc (.cells #[.slice (some ⟨gb,go,none⟩) 8 c] 27)).alloc (.cells (msV msZ none 0 0) 95)) _ _:=(hs.alloc _).alloc _;have hsz:w.heap.size+1 < ((w.alloc (.cells #[.slice (some ⟨gb,go,none⟩) 8 c] 27)).alloc (.cells (msV msZ none 0 0) 95)).heap.size:=by simp
 simp only[msV,msZ] at q0' q1' hbw hs1 hsz;replace q0:=(zc6 hbw).1 _ lgb |>.trans q0
 replace r3:=(zc6 hbw).1 ⟨gb,go+3,none⟩ lgb |>.trans r3
 generalize (w.alloc (.cells #[.slice (some ⟨gb,go,none⟩) 8 c] 27)).alloc _=W at *
 have hsz0:w.heap.size < W.heap.size:=by omega
 have lgb1:gb < W.heap.size:=by omega
 have q0'_c0:=q0'.cell 0 rfl;have q0'_f:=q0'.frozen;go_cut [9] (fun p wx=>GuessC k b0 b1 b2 b3 b4 b5 b6 b7 W p wx)
 case first=>
  go_wp2_with fail
  refine wp_region_held_drew (S:=(fun w'=>(∀qA:Addr,qA.block < (W).heap.size→w'.cell? qA=(W).cell? qA)∧ Below (W).heap.size (W) w')) (by kernel_rfl) ?hS1 (fun hHeld=>?rest1)
  case hS1=>exact kSn
  case' rest1=>skip
  iterate 2 (refine tkN ?_;try simp only[PqL,Act.put])
  refine tkH 4 ?_;try simp only[PqL,Act.put]
  refine tkH 5 ?_;try simp only[PqL,Act.put]
  refine tkH 6 ?_;try simp only[PqL,Act.put]
  refine tkH 7 ?_;try simp only[PqL,Act.put]
  refine tkH 8 ?_;try simp only[PqL,Act.put]
  refine tkH 9 ?_;try simp only[PqL,Act.put]
  refine tkH 10 ?_;try simp only[PqL,Act.put]
  refine tkH 11 ?_;try simp only[PqL,Act.put]
  refine tkH 12 ?_;try simp only[PqL,Act.put]
  refine tkH 13 ?_;try simp only[PqL,Act.put]
  refine tkH 14 ?_;try simp only[PqL,Act.put]
  refine tkH 17 ?_;try simp only[PqL,Act.put]
  refine wpAnyH_ready (rs:=[2,21]) (by kernel_rfl) (by simp) ?_;refine AllReadyH.cons (o:=_) rfl (fun K hK=>?_) (AllReadyH.cons (o:=_) rfl (fun K hK=>?_) .nil)
  · go_simp
    refine (HG1.out _ (by repeat (first | exact hs1 | exact hs1.drew | apply Sl.drew)) (by repeat (first | exact q0' | apply Blk.drew))).mono ?_;rintro e w3 ⟨rfl,rfl⟩;try dsimp only
    refine hK.out _ _ ?hS16 (fun hHeld=>?rest16)
    case hS16=>exact kSn
    case' rest16=>(clear hK K;try simp only[PqL,Act.put])
    refine tkH 3 ?_;try simp only[PqL,Act.put]
    refine wpAnyH_ready (rs:=[15,21]) (by kernel_rfl) (by simp) ?_;refine AllReadyH.cons (o:=_) rfl (fun K hK=>?_) (AllReadyH.cons (o:=_) rfl (fun K hK=>?_) .nil)
    · go_simp
      refine (HG4.out _ (by repeat (first | exact hs1 | exact hs1.drew | apply Sl.drew)) (by repeat (first | exact q0' | apply Blk.drew))).mono ?_;rintro e w3 ⟨rfl,rfl⟩;try dsimp only
      refine hK.out _ _ ?hS18 (fun hHeld=>?rest18)
      case hS18=>exact kSn
      case' rest18=>(clear hK K;try simp only[PqL,Act.put])
      refine tkH 16 ?_;try simp only[PqL,Act.put]
      refine wpAnyH_ready (rs:=[18,21]) (by kernel_rfl) (by simp) ?_;refine AllReadyH.cons (o:=_) rfl (fun K hK=>?_) (AllReadyH.cons (o:=_) rfl (fun K hK=>?_) .nil)
      · go_simp
        refine (HG4.out _ (by repeat (first | exact hs1 | exact hs1.drew | apply Sl.drew)) (by repeat (first | exact q0' | apply Blk.drew))).mono ?_;rintro e w3 ⟨rfl,rfl⟩;try dsimp only
        refine hK.out _ _ ?hS20 (fun hHeld=>?rest20)
        case hS20=>exact kSn
        case' rest20=>(clear hK K;try simp only[PqL,Act.put])
        refine tkH 19 ?_;try simp only[PqL,Act.put]
        refine tkH 20 ?_;try simp only[PqL,Act.put]
        refine kRd 21 (fun K hK=>?_)
        go_simp
        refine hK.out _ _ ?hS25 (fun hHeld=>?rest25)
        case hS25=>exact kSn
        case' rest25=>(clear hK K;try simp only[PqL,Act.put])
        refine kRd 22 (fun K hK=>?_)
        go_simp
        refine hK.out _ _ ?hS28 (fun hHeld=>?rest28)
        case hS28=>exact kSn
        case' rest28=>(clear hK K;try simp only[PqL,Act.put])
        refine wpAnyH_done (by kernel_rfl) ?_ _;have hEnd:=hHeld.2
        repeat (clear hHeld)
        clear hEnd;go_wp2_with fail
        go_meet
        rw[HX2.out,HX4.out,HX3.out,HT16.out,HT4.out];exact⟨rfl,by first | exact Blk.new W 95 _ | exact Blk.new W.drew 95 _,kBl⟩
      · go_simp
        refine hK.out _ _ ?hS901 (fun hHeld=>?rest901)
        case hS901=>exact kSn
        case' rest901=>(clear hK K;try simp only[PqL,Act.put])
        refine kRd 18 (fun K hK=>?_)
        go_simp
        refine (HG4.out _ (by repeat (first | exact hs1 | exact hs1.drew | apply Sl.alloc | apply Sl.drew)) (by repeat (first | exact q0' | apply Blk.alloc | apply Blk.drew))).mono ?_;rintro e w3 ⟨rfl,rfl⟩;try dsimp only
        refine hK.out _ _ ?hS32 (fun hHeld=>?rest32)
        case hS32=>exact kSn
        case' rest32=>(clear hK K;try simp only[PqL,Act.put])
        refine tkH 19 ?_;try simp only[PqL,Act.put]
        refine tkH 20 ?_;try simp only[PqL,Act.put]
        refine kRd 22 (fun K hK=>?_)
        go_simp
        refine hK.out _ _ ?hS37 (fun hHeld=>?rest37)
        case hS37=>exact kSn
        case' rest37=>(clear hK K;try simp only[PqL,Act.put])
        refine wpAnyH_done (by kernel_rfl) ?_ _;have hEnd:=hHeld.2
        repeat (clear hHeld)
        clear hEnd;go_wp2_with fail
        go_meet
        rw[HX2.out,HX4.out,HX3.out,HT16.out,HT4.out];exact⟨rfl,by first | exact Blk.new W 95 _ | exact Blk.new W.drew 95 _,kBl⟩
    · go_simp
      refine hK.out _ _ ?hS902 (fun hHeld=>?rest902)
      case hS902=>exact kSn
      case' rest902=>(clear hK K;try simp only[PqL,Act.put])
      refine kRd 15 (fun K hK=>?_)
      go_simp
      refine (HG4.out _ (by repeat (first | exact hs1 | exact hs1.drew | apply Sl.alloc | apply Sl.drew)) (by repeat (first | exact q0' | apply Blk.alloc | apply Blk.drew))).mono ?_;rintro e w3 ⟨rfl,rfl⟩;try dsimp only
      refine hK.out _ _ ?hS41 (fun hHeld=>?rest41)
      case hS41=>exact kSn
      case' rest41=>(clear hK K;try simp only[PqL,Act.put])
      refine tkH 16 ?_;try simp only[PqL,Act.put]
      refine kRd 18 (fun K hK=>?_)
      go_simp
      refine (HG4.out _ (by repeat (first | exact hs1 | exact hs1.drew | apply Sl.alloc | apply Sl.drew)) (by repeat (first | exact q0' | apply Blk.alloc | apply Blk.drew))).mono ?_;rintro e w3 ⟨rfl,rfl⟩;try dsimp only
      refine hK.out _ _ ?hS45 (fun hHeld=>?rest45)
      case hS45=>exact kSn
      case' rest45=>(clear hK K;try simp only[PqL,Act.put])
      refine tkH 19 ?_;try simp only[PqL,Act.put]
      refine tkH 20 ?_;try simp only[PqL,Act.put]
      refine kRd 22 (fun K hK=>?_)
      go_simp
      refine hK.out _ _ ?hS50 (fun hHeld=>?rest50)
      case hS50=>exact kSn
      case' rest50=>(clear hK K;try simp only[PqL,Act.put])
      refine wpAnyH_done (by kernel_rfl) ?_ _;have hEnd:=hHeld.2
      repeat (clear hHeld)
      clear hEnd;go_wp2_with fail
      go_meet
      rw[HX2.out,HX4.out,HX3.out,HT16.out,HT4.out];exact⟨rfl,by first | exact Blk.new W 95 _ | exact Blk.new W.drew 95 _,kBl⟩
  · go_simp
    refine hK.out _ _ ?hS903 (fun hHeld=>?rest903)
    case hS903=>exact kSn
    case' rest903=>(clear hK K;try simp only[PqL,Act.put])
    refine kRd 2 (fun K hK=>?_)
    go_simp
    refine (HG1.out _ (by repeat (first | exact hs1 | exact hs1.drew | apply Sl.alloc | apply Sl.drew)) (by repeat (first | exact q0' | apply Blk.alloc | apply Blk.drew))).mono ?_;rintro e w3 ⟨rfl,rfl⟩;try dsimp only
    refine hK.out _ _ ?hS54 (fun hHeld=>?rest54)
    case hS54=>exact kSn
    case' rest54=>(clear hK K;try simp only[PqL,Act.put])
    refine tkH 3 ?_;try simp only[PqL,Act.put]
    refine kRd 15 (fun K hK=>?_)
    go_simp
    refine (HG4.out _ (by repeat (first | exact hs1 | exact hs1.drew | apply Sl.alloc | apply Sl.drew)) (by repeat (first | exact q0' | apply Blk.alloc | apply Blk.drew))).mono ?_;rintro e w3 ⟨rfl,rfl⟩;try dsimp only
    refine hK.out _ _ ?hS58 (fun hHeld=>?rest58)
    case hS58=>exact kSn
    case' rest58=>(clear hK K;try simp only[PqL,Act.put])
    refine tkH 16 ?_;try simp only[PqL,Act.put]
    refine kRd 18 (fun K hK=>?_)
    go_simp
    refine (HG4.out _ (by repeat (first | exact hs1 | exact hs1.drew | apply Sl.alloc | apply Sl.drew)) (by repeat (first | exact q0' | apply Blk.alloc | apply Blk.drew))).mono ?_;rintro e w3 ⟨rfl,rfl⟩;try dsimp only
    refine hK.out _ _ ?hS62 (fun hHeld=>?rest62)
    case hS62=>exact kSn
    case' rest62=>(clear hK K;try simp only[PqL,Act.put])
    refine tkH 19 ?_;try simp only[PqL,Act.put]
    refine tkH 20 ?_;try simp only[PqL,Act.put]
    refine kRd 22 (fun K hK=>?_)
    go_simp
    refine hK.out _ _ ?hS67 (fun hHeld=>?rest67)
    case hS67=>exact kSn
    case' rest67=>(clear hK K;try simp only[PqL,Act.put])
    refine wpAnyH_done (by kernel_rfl) ?_ _;have hEnd:=hHeld.2
    repeat (clear hHeld)
    clear hEnd;go_wp2_with fail
    go_meet
    rw[HX2.out,HX4.out,HX3.out,HT16.out,HT4.out];exact⟨rfl,by first | exact Blk.new W 95 _ | exact Blk.new W.drew 95 _,kBl⟩
 case rest=>
  obtain⟨rfl,qm,hbx⟩:=hcut;simp only[msV] at qm;have q0W:=q0';have q1W:=q1';have hsW:=hs1;have hbwW:=hbw;replace q0':=q0'.below hbx hsz0;replace q1':=q1'.below hbx hsz;replace q0:=(zc6 hbx).1 _ lgb1 |>.trans q0
  replace hbw:=zc4 hbx hbw;have hzx:=qm.lt;clear q0'_c0 q0'_f;have e1:(bits .and .u8 (b0.toNat:Int) 1 != 0)=decide (b0.toNat % 2=1):=(zfj b0.toNat 1 hb0 (by omega)).trans (zcv _ hb0).2.2.1;have e2:(bits .and .u8 (b0.toNat:Int) 2 != 0)=decide (b0.toNat / 2 % 2=1):=(zfj b0.toNat 2 hb0 (by omega)).trans (zcv _ hb0).2.2.2.1;have e3:(bits .and .u8 (b0.toNat:Int) 128 != 0)=decide (128≤b0.toNat):=(zfj b0.toNat 128 hb0 (by omega)).trans (zcv _ hb0).2.2.2.2.1;have r1:=(hsW.below hbx).byte_ (j:=1) (by simp);obtain⟨gb1,go1,z1,r1⟩:=r1;injection z1 with z1
  injection z1 with z1 z1'
  subst z1 z1';have hb1:=b1.toNat_lt;have r2:=(hsW.below hbx).byte_ (j:=2) (by simp);obtain⟨gb2,go2,z2,r2⟩:=r2;injection z2 with z2
  injection z2 with z2 z2'
  subst z2 z2';have hb2:=b2.toNat_lt;have r4:=(hsW.below hbx).byte_ (j:=4) (by simp);obtain⟨gb4,go4,z4,r4⟩:=r4;injection z4 with z4
  injection z4 with z4 z4'
  subst z4 z4';have hb4:=b4.toNat_lt;simp only[List.getElem_cons_zero,List.getElem_cons_succ] at r1 r2 r4;rcases HGG.out with rfl | rfl | rfl | rfl | rfl
  · skip
    have hG:=zfo k b0 b1 b2 b3 b4 b5 b6 b7 HF.out;clear e1;have q0'_c0:=q0'.cell 0 rfl;have q0'_f:=q0'.frozen;obtain⟨aP,aQ,aR,aS,aT,aU,aV,aW,aX,aY,aG,aH,aI,aJ⟩:=zde qm;have aZ:=qm.frozen;go_wp2_with fail
    refine (ze6 ⟨k,(leN [b1,b2]:Nat),(b3.toNat:Nat),decide (b0.toNat / 16 % 2=1),false,decide (b0.toNat / 4 % 2=1),false,leN [b4,b5,b6,b7],leN [b4,b5,b6,b7],[],0,0,0,0⟩ none 0 0 _ rfl).mono ?_;rintro e w6 ⟨rfl,hb6⟩;have hbx6:Below W.heap.size W w6:=by refine zc4 hb6 ?_;repeat (first | exact hbx | refine zds (Nat.le_refl _) ?_ | refine zdr ?_)
    have q1x:=q1W.below hbx6 hsz;obtain⟨N,hN⟩:∃N,N=guessM k [b0,b1,b2,b3,b4,b5,b6,b7]:=⟨_,rfl⟩;have hd:N.data= []:=by rw[hN,hG];rfl
    rw[←hG,←hN];rw[show dataB 0=false from rfl];have hb7:=zc4 hbx6 hbwW;have HN:=zak hN;have HD:=zak hd;clear hN hd hG;clear aP aQ aR aS aT aU aV aW aX aY aG aH aI aJ aZ;obtain⟨bh,bi,bj,bm,bn,bo,bp,br,bs,bt,bc,bd,bf,bg⟩:=zde q1x;have bJ:=q1x.frozen;obtain⟨kind,ix,sub,tg,la,cr,sz,size,code,data,sq,bl,em,sum⟩:=N;simp only[msV,if_true,if_false,Bool.false_eq_true,ite_self];go_wp2_with fail
    refine bodyPost_ret (v:= .agg #[.int .i64 kind,.int .i64 ix,.int .i64 sub,.bool tg,.bool la,.bool cr,.bool sz,.int .u32 (size:Nat),.int .u32 (code:Nat),.slice none 0 0,.int .i64 sq,.int .i64 bl,.int .i64 em,.int .u16 (sum:Nat)]) (by simp[results,Tryz.results224,go_sem,bh,bi,bj,bm,bn,bo,bp,br,bs,bt,bc,bd,bf,bg,bJ]) rfl ?_;exact⟨none,0,0,by rw[←HN.out];rfl,by rw[←HN.out,HD.out];exact zdv.nil _ _,kBl⟩
  · skip
    have hG:=zfp k b0 b1 b2 b3 b4 b5 b6 b7 HF.out;clear e1;have q0'_c0:=q0'.cell 0 rfl;have q0'_f:=q0'.frozen;obtain⟨aP,aQ,aR,aS,aT,aU,aV,aW,aX,aY,aG,aH,aI,aJ⟩:=zde qm;have aZ:=qm.frozen;go_wp2_with fail
    refine (ze7 ⟨k,(leN [b1,b2]:Nat),(b3.toNat:Nat),decide (b0.toNat / 16 % 2=1),false,decide (b0.toNat / 4 % 2=1),false,leN [b4,b5,b6,b7],leN [b4,b5,b6,b7],[],0,0,0,0⟩ none 0 0 _ rfl).mono ?_;rintro e w6 ⟨rfl,hb6⟩;have hbx6:Below W.heap.size W w6:=by refine zc4 hb6 ?_;repeat (first | exact hbx | refine zds (Nat.le_refl _) ?_ | refine zdr ?_)
    have q1x:=q1W.below hbx6 hsz;obtain⟨N,hN⟩:∃N,N=guessM k [b0,b1,b2,b3,b4,b5,b6,b7]:=⟨_,rfl⟩;have hd:N.data= []:=by rw[hN,hG];rfl
    rw[←hG,←hN];rw[show dataB 1=false from rfl];have hb7:=zc4 hbx6 hbwW;have HN:=zak hN;have HD:=zak hd;clear hN hd hG;clear aP aQ aR aS aT aU aV aW aX aY aG aH aI aJ aZ;obtain⟨bh,bi,bj,bm,bn,bo,bp,br,bs,bt,bc,bd,bf,bg⟩:=zde q1x;have bJ:=q1x.frozen;obtain⟨kind,ix,sub,tg,la,cr,sz,size,code,data,sq,bl,em,sum⟩:=N;simp only[msV,if_true,if_false,Bool.false_eq_true,ite_self];go_wp2_with fail
    refine bodyPost_ret (v:= .agg #[.int .i64 kind,.int .i64 ix,.int .i64 sub,.bool tg,.bool la,.bool cr,.bool sz,.int .u32 (size:Nat),.int .u32 (code:Nat),.slice none 0 0,.int .i64 sq,.int .i64 bl,.int .i64 em,.int .u16 (sum:Nat)]) (by simp[results,Tryz.results224,go_sem,bh,bi,bj,bm,bn,bo,bp,br,bs,bt,bc,bd,bf,bg,bJ]) rfl ?_;exact⟨none,0,0,by rw[←HN.out];rfl,by rw[←HN.out,HD.out];exact zdv.nil _ _,kBl⟩
  · skip
    have hG:=zft k b0 b1 b2 b3 b4 b5 b6 b7 HF.out;clear e1;have q0'_c0:=q0'.cell 0 rfl;have q0'_f:=q0'.frozen;obtain⟨aP,aQ,aR,aS,aT,aU,aV,aW,aX,aY,aG,aH,aI,aJ⟩:=zde qm;have aZ:=qm.frozen;go_wp2_with fail
    refine (zfa ⟨k,(leN [b1,b2]:Nat),(b3.toNat:Nat),decide (b0.toNat / 16 % 2=1),false,decide (b0.toNat / 4 % 2=1),false,leN [b4,b5,b6,b7],leN [b4,b5,b6,b7],[],0,0,0,0⟩ none 0 0 _ rfl).mono ?_;rintro e w6 ⟨rfl,hb6⟩;have hbx6:Below W.heap.size W w6:=by refine zc4 hb6 ?_;repeat (first | exact hbx | refine zds (Nat.le_refl _) ?_ | refine zdr ?_)
    have q1x:=q1W.below hbx6 hsz;obtain⟨N,hN⟩:∃N,N=guessM k [b0,b1,b2,b3,b4,b5,b6,b7]:=⟨_,rfl⟩;have hd:N.data= []:=by rw[hN,hG];rfl
    rw[←hG,←hN];rw[show dataB 4=false from rfl];have hb7:=zc4 hbx6 hbwW;have HN:=zak hN;have HD:=zak hd;clear hN hd hG;clear aP aQ aR aS aT aU aV aW aX aY aG aH aI aJ aZ;obtain⟨bh,bi,bj,bm,bn,bo,bp,br,bs,bt,bc,bd,bf,bg⟩:=zde q1x;have bJ:=q1x.frozen;obtain⟨kind,ix,sub,tg,la,cr,sz,size,code,data,sq,bl,em,sum⟩:=N;simp only[msV,if_true,if_false,Bool.false_eq_true,ite_self];go_wp2_with fail
    refine bodyPost_ret (v:= .agg #[.int .i64 kind,.int .i64 ix,.int .i64 sub,.bool tg,.bool la,.bool cr,.bool sz,.int .u32 (size:Nat),.int .u32 (code:Nat),.slice none 0 0,.int .i64 sq,.int .i64 bl,.int .i64 em,.int .u16 (sum:Nat)]) (by simp[results,Tryz.results224,go_sem,bh,bi,bj,bm,bn,bo,bp,br,bs,bt,bc,bd,bf,bg,bJ]) rfl ?_;exact⟨none,0,0,by rw[←HN.out];rfl,by rw[←HN.out,HD.out];exact zdv.nil _ _,kBl⟩
  · skip
    have hG:=zfu k b0 b1 b2 b3 b4 b5 b6 b7 HF.out;clear e1;have q0'_c0:=q0'.cell 0 rfl;have q0'_f:=q0'.frozen;obtain⟨aP,aQ,aR,aS,aT,aU,aV,aW,aX,aY,aG,aH,aI,aJ⟩:=zde qm;have aZ:=qm.frozen;go_wp2_with fail
    refine (zfb ⟨k,(leN [b1,b2]:Nat),(b3.toNat:Nat),decide (b0.toNat / 16 % 2=1),false,decide (b0.toNat / 4 % 2=1),false,leN [b4,b5,b6,b7],leN [b4,b5,b6,b7],[],0,0,0,0⟩ none 0 0 _ rfl).mono ?_;rintro e w6 ⟨rfl,hb6⟩;have hbx6:Below W.heap.size W w6:=by refine zc4 hb6 ?_;repeat (first | exact hbx | refine zds (Nat.le_refl _) ?_ | refine zdr ?_)
    have q1x:=q1W.below hbx6 hsz;obtain⟨N,hN⟩:∃N,N=guessM k [b0,b1,b2,b3,b4,b5,b6,b7]:=⟨_,rfl⟩;have hd:N.data= []:=by rw[hN,hG];rfl
    rw[←hG,←hN];rw[show dataB 5=false from rfl];have hb7:=zc4 hbx6 hbwW;have HN:=zak hN;have HD:=zak hd;clear hN hd hG;clear aP aQ aR aS aT aU aV aW aX aY aG aH aI aJ aZ;obtain⟨bh,bi,bj,bm,bn,bo,bp,br,bs,bt,bc,bd,bf,bg⟩:=zde q1x;have bJ:=q1x.frozen;obtain⟨kind,ix,sub,tg,la,cr,sz,size,code,data,sq,bl,em,sum⟩:=N;simp only[msV,if_true,if_false,Bool.false_eq_true,ite_self];go_wp2_with fail
    refine bodyPost_ret (v:= .agg #[.int .i64 kind,.int .i64 ix,.int .i64 sub,.bool tg,.bool la,.bool cr,.bool sz,.int .u32 (size:Nat),.int .u32 (code:Nat),.slice none 0 0,.int .i64 sq,.int .i64 bl,.int .i64 em,.int .u16 (sum:Nat)]) (by simp[results,Tryz.results224,go_sem,bh,bi,bj,bm,bn,bo,bp,br,bs,bt,bc,bd,bf,bg,bJ]) rfl ?_;exact⟨none,0,0,by rw[←HN.out];rfl,by rw[←HN.out,HD.out];exact zdv.nil _ _,kBl⟩
  · skip
    have hG:=zfz k b0 b1 b2 b3 b4 b5 b6 b7 HF.out;clear e1;have q0'_c0:=q0'.cell 0 rfl;have q0'_f:=q0'.frozen;obtain⟨aP,aQ,aR,aS,aT,aU,aV,aW,aX,aY,aG,aH,aI,aJ⟩:=zde qm;have aZ:=qm.frozen;go_wp2_with fail
    refine (zfg ⟨k,(leN [b1,b2]:Nat),(b3.toNat:Nat),decide (b0.toNat / 16 % 2=1),false,decide (b0.toNat / 4 % 2=1),false,leN [b4,b5,b6,b7],leN [b4,b5,b6,b7],[],0,0,0,0⟩ none 0 0 _ rfl).mono ?_;rintro e w6 ⟨rfl,hb6⟩;have hbx6:Below W.heap.size W w6:=by refine zc4 hb6 ?_;repeat (first | exact hbx | refine zds (Nat.le_refl _) ?_ | refine zdr ?_)
    have q1x:=q1W.below hbx6 hsz;obtain⟨N,hN⟩:∃N,N=guessM k [b0,b1,b2,b3,b4,b5,b6,b7]:=⟨_,rfl⟩;have hd:N.data= []:=by rw[hN,hG];rfl
    rw[←hG,←hN];rw[show dataB 10=false from rfl];have hb7:=zc4 hbx6 hbwW;have HN:=zak hN;have HD:=zak hd;clear hN hd hG;clear aP aQ aR aS aT aU aV aW aX aY aG aH aI aJ aZ;obtain⟨bh,bi,bj,bm,bn,bo,bp,br,bs,bt,bc,bd,bf,bg⟩:=zde q1x;have bJ:=q1x.frozen;obtain⟨kind,ix,sub,tg,la,cr,sz,size,code,data,sq,bl,em,sum⟩:=N;simp only[msV,if_true,if_false,Bool.false_eq_true,ite_self];go_wp2_with fail
    refine bodyPost_ret (v:= .agg #[.int .i64 kind,.int .i64 ix,.int .i64 sub,.bool tg,.bool la,.bool cr,.bool sz,.int .u32 (size:Nat),.int .u32 (code:Nat),.slice none 0 0,.int .i64 sq,.int .i64 bl,.int .i64 em,.int .u16 (sum:Nat)]) (by simp[results,Tryz.results224,go_sem,bh,bi,bj,bm,bn,bo,bp,br,bs,bt,bc,bd,bf,bg,bJ]) rfl ?_;exact⟨none,0,0,by rw[←HN.out];rfl,by rw[←HN.out,HD.out];exact zdv.nil _ _,kBl⟩
end
end Go.Proofs.YtkkpjbjmhaecjaaGreat
