/- None -/
import Derived.Test.YthdbckbpldlkeaaQ34
namespace Go.Proofs.Ythdbckbpldlkeaa
set_option linter.unusedVariables false
set_option linter.unusedSimpArgs false
set_option linter.unnecessarySimpa false
section
open Go.RowKit Go.Maps
set_option maxRecDepth 100000
set_option maxHeartbeats 8000000
section
variable {w0:World} {G:Nat→Prop} {p:Nat} {ks:List KB} {rs:List RB}
theorem znd (T:RCli) (R:RR) (M:Ms) (A:Option Addr) (n c:Nat) (W:World) (h:RM w0 G p (rclL T R) ks rs W) (hk:12≤M.kind∧M.kind≤21) :
 Calls Try.prog 42 #[.pointer (some ⟨p,0,none⟩),.agg (msV M A n c)] W fun e W'=>e= .returned (.bool (rFitB T M))∧ Below W.heap.size W W':=by
 have H1:Hid (RM w0 G p (rclL T R) (⟨W.heap.size,72,(msV M A n c).toList⟩ :: ks) rs (W.alloc (.cells (msV M A n c) 72))):= zak (h.new _ _)
 have HBL:=zak (zbp (Below.refl W.heap.size W) (.cells (msV M A n c) 72))
 have HK:=zak hk
 have HF:Hid (rFitB T M=(decide (M.kind=T.wk) && (
  if M.kind=12∨M.kind=14∨M.kind=19 then decide (M.ix=T.ix) && decide (M.sub=T.sub)
  else if M.kind=16 then decide (M.ix=T.ix) && decide (M.sub=T.sub) && decide (0 < M.bl)
  else if M.kind=13∨M.kind=15 then M.tg == T.tg
  else if M.kind=17 then decide (0 < M.bl) && decide (M.sq≤T.ro) else true))):= zak rfl
 obtain⟨P,hP⟩:∃ P,P=(fun (e:Ending) (W':World)=> e= .returned (.bool (rFitB T M))∧ Below W.heap.size W W'):= ⟨_,rfl⟩
 rw[← hP]
 have HP:=zak hP
 clear h hk hP
 unfold msV at H1 HBL ⊢
 go_enter Try.func42,Try.ntmps42
 go_upto_region 1 with fail
 refine zcn (P:=fun W1=>RM w0 G p (rclL T R) (⟨W.heap.size,72,(msV M A n c).toList⟩ :: ks) rs W1∧Below W.heap.size W W1) ⟨by exact H1.out,HBL.out⟩ (fun W1 h1=>?_)
 clear H1 HBL
 obtain⟨h1,hbl⟩:= h1
 obtain⟨g,hg⟩:∃ g,g=W.heap.size:=⟨_,rfl⟩
 rw[← hg] at h1
 have HG:=zak hg
 rw[← hg]
 have HBL:=zak hbl
 have z1:=h1.lt
 have q:Blk W1 g 72 (msV M A n c):= h1.k0
 have zg:=q.lt
 have qk:W1.cell? ⟨g,0,none⟩=some (.int .i64 M.kind):= q.cell 0 rfl
 have q1:W1.cell? ⟨g,1,none⟩=some (.int .i64 M.ix):= q.cell 1 rfl
 have q2:W1.cell? ⟨g,2,none⟩=some (.int .i64 M.sub):= q.cell 2 rfl
 have q3:W1.cell? ⟨g,3,none⟩=some (.bool M.tg):= q.cell 3 rfl
 have q10:W1.cell? ⟨g,10,none⟩=some (.int .i64 M.sq):= q.cell 10 rfl
 have q11:W1.cell? ⟨g,11,none⟩=some (.int .i64 M.bl):= q.cell 11 rfl
 have b1:W1.cell? ⟨p,1,none⟩=some (.int .i64 T.wk):= h1.blk.cell 1 rfl
 have b2:W1.cell? ⟨p,2,none⟩=some (.int .i64 T.ix):= h1.blk.cell 2 rfl
 have b3:W1.cell? ⟨p,3,none⟩=some (.int .i64 T.sub):= h1.blk.cell 3 rfl
 have b7:W1.cell? ⟨p,7,none⟩=some (.bool T.tg):= h1.blk.cell 7 rfl
 have b13:W1.cell? ⟨p,13,none⟩=some (.int .i64 T.ro):= h1.blk.cell 13 rfl
 obtain⟨kind,hkd⟩:∃ k,k=M.kind:=⟨_,rfl⟩
 rw[← hkd] at qk HF HK
 clear q h1 hbl hg hkd
 by_cases hw:kind=T.wk
 · rw[← hw] at b1
   have HW:Hid (decide (kind=T.wk)=true):= zak (decide_eq_true hw)
   rw[HW.out,Bool.true_and] at HF
   have hK:=HK.out
   have hcs:kind=12∨kind=13∨kind=14∨kind=15∨kind=16∨kind=17∨kind=18∨kind=19∨kind=20∨kind=21:=by omega
   clear hw hK HK HW
   rcases hcs with rfl | rfl | rfl | rfl | rfl | rfl | rfl | rfl | rfl | rfl
   · by_cases e1:M.ix=T.ix
     · have d1:(M.ix == T.ix)=true:=by simp[e1]
       have E1:=zak e1
       clear e1
       by_cases e2:M.sub=T.sub
       · have d2:(M.sub == T.sub)=true:=by simp[e2]
         have E2:=zak e2
         clear e2
         go_quiet (fail)
         go_upto_region 7 with fail
         go_quiet (fail)
         go_wp2_with fail
         have hbl:=HBL.out
         rw[HP.out]
         exact⟨by rw[HF.out];first | (simp[E1.out,E2.out];done) | (simp[E1.out,E2.out];omega),bl⟩
       · have d2:(M.sub == T.sub)=false:=by simp[e2]
         have E2:=zak e2
         clear e2
         go_quiet (fail)
         go_upto_region 7 with fail
         go_quiet (fail)
         go_wp2_with fail
         have hbl:=HBL.out
         rw[HP.out]
         exact⟨by rw[HF.out];first | (simp[E1.out,E2.out];done) | (simp[E1.out,E2.out];omega),bl⟩
     · have d1:(M.ix == T.ix)=false:=by simp[e1]
       have E1:=zak e1
       clear e1
       go_quiet (fail)
       go_upto_region 7 with fail
       go_quiet (fail)
       go_wp2_with fail
       have hbl:=HBL.out
       rw[HP.out]
       exact⟨by rw[HF.out];first | (simp[E1.out];done) | (simp[E1.out];omega),bl⟩
   · obtain⟨tb,htb⟩:∃ tb:Bool,tb=(M.tg == T.tg):= ⟨_,rfl⟩
     have htb2:=htb.symm
     have HTB:=zak htb
     clear htb
     go_quiet (fail)
     go_upto_region 12 with fail
     go_quiet (fail)
     go_wp2_with fail
     have hbl:=HBL.out
     rw[HP.out]
     exact⟨by rw[HF.out];first | (simp[HTB.out];done) | (simp[HTB.out];omega),bl⟩
   · by_cases e1:M.ix=T.ix
     · have d1:(M.ix == T.ix)=true:=by simp[e1]
       have E1:=zak e1
       clear e1
       by_cases e2:M.sub=T.sub
       · have d2:(M.sub == T.sub)=true:=by simp[e2]
         have E2:=zak e2
         clear e2
         go_quiet (fail)
         go_upto_region 7 with fail
         go_quiet (fail)
         go_wp2_with fail
         have hbl:=HBL.out
         rw[HP.out]
         exact⟨by rw[HF.out];first | (simp[E1.out,E2.out];done) | (simp[E1.out,E2.out];omega),bl⟩
       · have d2:(M.sub == T.sub)=false:=by simp[e2]
         have E2:=zak e2
         clear e2
         go_quiet (fail)
         go_upto_region 7 with fail
         go_quiet (fail)
         go_wp2_with fail
         have hbl:=HBL.out
         rw[HP.out]
         exact⟨by rw[HF.out];first | (simp[E1.out,E2.out];done) | (simp[E1.out,E2.out];omega),bl⟩
     · have d1:(M.ix == T.ix)=false:=by simp[e1]
       have E1:=zak e1
       clear e1
       go_quiet (fail)
       go_upto_region 7 with fail
       go_quiet (fail)
       go_wp2_with fail
       have hbl:=HBL.out
       rw[HP.out]
       exact⟨by rw[HF.out];first | (simp[E1.out];done) | (simp[E1.out];omega),bl⟩
   · obtain⟨tb,htb⟩:∃ tb:Bool,tb=(M.tg == T.tg):= ⟨_,rfl⟩
     have htb2:=htb.symm
     have HTB:=zak htb
     clear htb
     go_quiet (fail)
     go_upto_region 12 with fail
     go_quiet (fail)
     go_wp2_with fail
     have hbl:=HBL.out
     rw[HP.out]
     exact⟨by rw[HF.out];first | (simp[HTB.out];done) | (simp[HTB.out];omega),bl⟩
   · by_cases e1:M.ix=T.ix
     · have d1:(M.ix == T.ix)=true:=by simp[e1]
       have E1:=zak e1
       clear e1
       by_cases e2:M.sub=T.sub
       · have d2:(M.sub == T.sub)=true:=by simp[e2]
         have E2:=zak e2
         clear e2
         by_cases hbl0:0 < M.bl
         · skip
           go_quiet (fail)
           go_upto_region 9 with fail
           go_quiet (fail)
           go_wp2_with fail
           have hbl:=HBL.out
           rw[HP.out]
           exact⟨by rw[HF.out];first | (simp[E1.out,E2.out,hbl0];done) | (simp[E1.out,E2.out,hbl0];omega),bl⟩
         · skip
           go_quiet (fail)
           go_upto_region 9 with fail
           go_quiet (fail)
           go_wp2_with fail
           have hbl:=HBL.out
           rw[HP.out]
           exact⟨by rw[HF.out];first | (simp[E1.out,E2.out,hbl0];done) | (simp[E1.out,E2.out,hbl0];omega),bl⟩
       · have d2:(M.sub == T.sub)=false:=by simp[e2]
         have E2:=zak e2
         clear e2
         go_quiet (fail)
         go_upto_region 9 with fail
         go_quiet (fail)
         go_wp2_with fail
         have hbl:=HBL.out
         rw[HP.out]
         exact⟨by rw[HF.out];first | (simp[E1.out,E2.out];done) | (simp[E1.out,E2.out];omega),bl⟩
     · have d1:(M.ix == T.ix)=false:=by simp[e1]
       have E1:=zak e1
       clear e1
       go_quiet (fail)
       go_upto_region 9 with fail
       go_quiet (fail)
       go_wp2_with fail
       have hbl:=HBL.out
       rw[HP.out]
       exact⟨by rw[HF.out];first | (simp[E1.out];done) | (simp[E1.out];omega),bl⟩
   · by_cases hbl0:0 < M.bl
     · by_cases hsq:M.sq≤T.ro
       · skip
         go_quiet (fail)
         go_upto_region 14 with fail
         go_quiet (fail)
         go_wp2_with fail
         have hbl:=HBL.out
         rw[HP.out]
         exact⟨by rw[HF.out];first | (simp[hbl0,hsq];done) | (simp[hbl0,hsq];omega),bl⟩
       · skip
         go_quiet (fail)
         go_upto_region 14 with fail
         go_quiet (fail)
         go_wp2_with fail
         have hbl:=HBL.out
         rw[HP.out]
         exact⟨by rw[HF.out];first | (simp[hbl0,hsq];done) | (simp[hbl0,hsq];omega),bl⟩
     · skip
       go_quiet (fail)
       go_upto_region 14 with fail
       go_quiet (fail)
       go_wp2_with fail
       have hbl:=HBL.out
       rw[HP.out]
       exact⟨by rw[HF.out];first | (simp[hbl0];done) | (simp[hbl0];omega),bl⟩
   · skip
     go_quiet (fail)
     go_wp2_with fail
     have hbl:=HBL.out
     rw[HP.out]
     exact⟨by rw[HF.out];first | (simp[];done) | (simp[];omega),bl⟩
   · by_cases e1:M.ix=T.ix
     · have d1:(M.ix == T.ix)=true:=by simp[e1]
       have E1:=zak e1
       clear e1
       by_cases e2:M.sub=T.sub
       · have d2:(M.sub == T.sub)=true:=by simp[e2]
         have E2:=zak e2
         clear e2
         go_quiet (fail)
         go_upto_region 7 with fail
         go_quiet (fail)
         go_wp2_with fail
         have hbl:=HBL.out
         rw[HP.out]
         exact⟨by rw[HF.out];first | (simp[E1.out,E2.out];done) | (simp[E1.out,E2.out];omega),bl⟩
       · have d2:(M.sub == T.sub)=false:=by simp[e2]
         have E2:=zak e2
         clear e2
         go_quiet (fail)
         go_upto_region 7 with fail
         go_quiet (fail)
         go_wp2_with fail
         have hbl:=HBL.out
         rw[HP.out]
         exact⟨by rw[HF.out];first | (simp[E1.out,E2.out];done) | (simp[E1.out,E2.out];omega),bl⟩
     · have d1:(M.ix == T.ix)=false:=by simp[e1]
       have E1:=zak e1
       clear e1
       go_quiet (fail)
       go_upto_region 7 with fail
       go_quiet (fail)
       go_wp2_with fail
       have hbl:=HBL.out
       rw[HP.out]
       exact⟨by rw[HF.out];first | (simp[E1.out];done) | (simp[E1.out];omega),bl⟩
   · skip
     go_quiet (fail)
     go_wp2_with fail
     have hbl:=HBL.out
     rw[HP.out]
     exact⟨by rw[HF.out];first | (simp[];done) | (simp[];omega),bl⟩
   · skip
     go_quiet (fail)
     go_wp2_with fail
     have hbl:=HBL.out
     rw[HP.out]
     exact⟨by rw[HF.out];first | (simp[];done) | (simp[];omega),bl⟩
 · have d0:(kind != T.wk)=true:=by simp[hw]
   have HW:Hid (decide (kind=T.wk)=false):= zak (decide_eq_false hw)
   clear hw HK
   go_quiet (fail)
   go_wp2_with fail
   have hbl:=HBL.out
   rw[HP.out]
   exact⟨by rw[HF.out,HW.out];rfl,bl⟩
end
end
section
open Go.RowKit
set_option maxRecDepth 100000
set_option maxHeartbeats 4000000
theorem zne (A:Option Addr) (n c:Nat) (l:List UInt8) (at_ wd:Int) (w:World) (hn:n=l.length) (hc:n≤c) (hl:n≤4611686018427387904) (h0:0≤at_) (h1:at_+wd≤n) (h2:1≤wd) (h8:wd≤4) (hs:Sl w A (l.map bv)) :
 Calls Try.prog 94 #[.slice A n c,.int .i64 at_,.int .i64 wd] w fun e w'=>e= .returned (.int .i64 (leN ((l.drop at_.toNat).take wd.toNat)))∧ w=w':=by
 have HG:=zak (zda A n c l at_ wd w hn hc hl h0 h1 h2 (by omega) hs)
 have hb:leN ((l.drop at_.toNat).take wd.toNat)≤ 4294967295:=by
  have h:=zan ((l.drop at_.toNat).take wd.toNat)
  have hp:256 ^ ((l.drop at_.toNat).take wd.toNat).length≤256 ^ 4:=Nat.pow_le_pow_right (by omega) (Nat.le_trans (List.length_take_le _ _) (by omega))
  have:(256:Nat) ^ 4=4294967296:=by decide
  omega
 generalize leN ((l.drop at_.toNat).take wd.toNat)=x at *
 have HX:Hid (IntKind.i64.wrap (x:Int)=(x:Int)):= zak (zd3 (by omega)).1
 clear hn hc hl h0 h1 h2 h8 hs
 go_enter Try.func94,Try.ntmps94
 go_wp2_with fail
 refine HG.out.mono ?_
 rintro e w1 ⟨rfl,rfl⟩
 go_wp2_with fail
 go_ret
 exact⟨by first | rfl | rw[HX.out],rfl⟩
theorem znf (x k:Nat) (h:x < 256):((IntKind.i64.wrap ((x:Int) / (k:Int))).tmod 2 == 1)=decide (x / k % 2=1):= by
 have h1:IntKind.i64.wrap ((x:Int) / (k:Int))=((x / k:Nat):Int):= by
  rw[show ((x:Int) / (k:Int))=((x / k:Nat):Int) by push_cast;rfl]
  have:=Nat.div_le_self x k
  exact (zd3 (by omega)).1
 rw[h1,Int.tmod_eq_emod_of_nonneg (Int.natCast_nonneg _),Bool.eq_iff_iff]
 generalize x / k=y
 simp
 omega
theorem zng (k:Int) (b0 b1 b2 b3 b4 b5 b6 b7:UInt8):(#[.int .i64 k,.int .i64 ((leN [b1,b2]:Nat):Int),.int .i64 (IntKind.i64.wrap (b3.toNat:Int)),.bool ((IntKind.i64.wrap ((b0.toNat:Int) / 16)).tmod 2 == 1),.bool ((b0.toNat:Int).tmod 2 == 1),.bool ((IntKind.i64.wrap ((b0.toNat:Int) / 4)).tmod 2 == 1),.bool false,.int .u32 (IntKind.u32.wrap ((leN [b4,b5,b6,b7]:Nat):Int)),.int .u32 (IntKind.u32.wrap ((leN [b4,b5,b6,b7]:Nat):Int)),.slice none 0 0,.int .i64 (IntKind.i64.wrap (b1.toNat:Int)),.int .i64 (IntKind.i64.wrap (b2.toNat:Int)),.int .i64 ((IntKind.i64.wrap ((b0.toNat:Int) / 4)).tmod 8),.int .u16 (IntKind.u16.wrap ((leN [b1,b2]:Nat):Int))]:Array Value)=msV ⟨k,(leN [b1,b2]:Nat),(b3.toNat:Int),decide (b0.toNat / 16 % 2=1),decide (b0.toNat % 2=1),decide (b0.toNat / 4 % 2=1),false,leN [b4,b5,b6,b7],leN [b4,b5,b6,b7],[],(b1.toNat:Int),(b2.toNat:Int),(b0.toNat:Int) / 4 % 8,leN [b1,b2]⟩ none 0 0:=by
 have hb0:=b0.toNat_lt
 have hb1:=b1.toNat_lt
 have hb2:=b2.toNat_lt
 have hb3:=b3.toNat_lt
 have e1:=znf b0.toNat 16 hb0
 have e2:=znf b0.toNat 4 hb0
 have e3:((b0.toNat:Int).tmod 2 == 1)=decide (b0.toNat % 2=1):= by
  rw[Int.tmod_eq_emod_of_nonneg (by omega),Bool.eq_iff_iff]
  simp
  omega
 have e4:(IntKind.i64.wrap ((b0.toNat:Int) / 4)).tmod 8=(b0.toNat:Int) / 4 % 8:=by
  rw[IntWalk.i64_in _ (by omega),Int.tmod_eq_emod_of_nonneg (by omega)]
 have x4:IntKind.u32.wrap ((leN [b4,b5,b6,b7]:Nat):Int)=((leN [b4,b5,b6,b7]:Nat):Int):= (zd3 (by have:=zan [b4,b5,b6,b7];simp only[List.length_cons,List.length_nil] at this;omega)).2.1
 have x2:IntKind.u16.wrap ((leN [b1,b2]:Nat):Int)=((leN [b1,b2]:Nat):Int):= by have:=zan [b1,b2];simp only[List.length_cons,List.length_nil] at this;rw[IntKind.wrap_u16];omega
 have x1:IntKind.i64.wrap (b1.toNat:Int)=b1.toNat:=(zd3 (by omega)).1
 have x3:IntKind.i64.wrap (b2.toNat:Int)=b2.toNat:=(zd3 (by omega)).1
 have x5:IntKind.i64.wrap (b3.toNat:Int)=b3.toNat:=(zd3 (by omega)).1
 rw[show ((16:Nat):Int)=16 from rfl] at e1
 rw[show ((4:Nat):Int)=4 from rfl] at e2
 rw[e1,e2,e3,e4,x4,x2,x1,x3,x5]
 rfl
def RGuessC (k:Int) (b0 b1 b2 b3 b4 b5 b6 b7:UInt8) (W:World) (p:Value) (wx:World):Prop:=
 p= .pointer (some ⟨W.heap.size,0,none⟩)∧ Blk wx W.heap.size 72 (msV ⟨k,(leN [b1,b2]:Nat),(b3.toNat:Int),decide (b0.toNat / 16 % 2=1),decide (b0.toNat % 2=1),decide (b0.toNat / 4 % 2=1),false,leN [b4,b5,b6,b7],leN [b4,b5,b6,b7],[],(b1.toNat:Int),(b2.toNat:Int),(b0.toNat:Int) / 4 % 8,leN [b1,b2]⟩ none 0 0)∧ Below W.heap.size W wx
theorem rg_2y (b0 b1 b2 b3 b4 b5 b6 b7:UInt8) (h2:b0.toNat / 2 % 2=1):guessM 2 [b0,b1,b2,b3,b4,b5,b6,b7]=onlyM 2 ⟨2,(leN [b1,b2]:Nat),(b3.toNat:Int),decide (b0.toNat / 16 % 2=1),decide (b0.toNat % 2=1),decide (b0.toNat / 4 % 2=1),decide (b0.toNat % 2=1),leN [b4,b5,b6,b7],leN [b4,b5,b6,b7],([b0,b1,b2,b3,b4,b5,b6,b7].drop 4).take (4 - b0.toNat / 4 % 4),(b1.toNat:Int),(b2.toNat:Int),(b0.toNat:Int) / 4 % 8,leN [b1,b2]⟩:= by
 have hb0:=b0.toNat_lt
 skip
 skip
 skip
 simp[guessM,preM,formI,byt,datF,datN,onlyM,placedB,dataB,h2]
theorem rg_2n (b0 b1 b2 b3 b4 b5 b6 b7:UInt8) (h2: ¬ b0.toNat / 2 % 2=1):guessM 2 [b0,b1,b2,b3,b4,b5,b6,b7]=onlyM 2 ⟨2,(leN [b1,b2]:Nat),(b3.toNat:Int),decide (b0.toNat / 16 % 2=1),decide (b0.toNat % 2=1),decide (b0.toNat / 4 % 2=1),decide (b0.toNat % 2=1),leN [b4,b5,b6,b7],leN [b4,b5,b6,b7],[],(b1.toNat:Int),(b2.toNat:Int),(b0.toNat:Int) / 4 % 8,leN [b1,b2]⟩:= by
 have hb0:=b0.toNat_lt
 skip
 skip
 skip
 simp[guessM,preM,formI,byt,datF,datN,onlyM,placedB,dataB,h2]
theorem znh (b0 b1 b2 b3 b4 b5 b6 b7:UInt8) (h2:b0.toNat / 2 % 2=1):guessM 14 [b0,b1,b2,b3,b4,b5,b6,b7]=onlyM 2 ⟨14,(leN [b1,b2]:Nat),(b3.toNat:Int),decide (b0.toNat / 16 % 2=1),decide (b0.toNat % 2=1),decide (b0.toNat / 4 % 2=1),decide (b0.toNat % 2=1),leN [b4,b5,b6,b7],leN [b4,b5,b6,b7],([b0,b1,b2,b3,b4,b5,b6,b7].drop 4).take (4 - b0.toNat / 4 % 4),(b1.toNat:Int),(b2.toNat:Int),(b0.toNat:Int) / 4 % 8,leN [b1,b2]⟩:= by
 have hb0:=b0.toNat_lt
 skip
 skip
 skip
 simp[guessM,preM,formI,byt,datF,datN,onlyM,placedB,dataB,h2]
theorem zni (b0 b1 b2 b3 b4 b5 b6 b7:UInt8) (h2: ¬ b0.toNat / 2 % 2=1):guessM 14 [b0,b1,b2,b3,b4,b5,b6,b7]=onlyM 2 ⟨14,(leN [b1,b2]:Nat),(b3.toNat:Int),decide (b0.toNat / 16 % 2=1),decide (b0.toNat % 2=1),decide (b0.toNat / 4 % 2=1),decide (b0.toNat % 2=1),leN [b4,b5,b6,b7],leN [b4,b5,b6,b7],[],(b1.toNat:Int),(b2.toNat:Int),(b0.toNat:Int) / 4 % 8,leN [b1,b2]⟩:= by
 have hb0:=b0.toNat_lt
 skip
 skip
 skip
 simp[guessM,preM,formI,byt,datF,datN,onlyM,placedB,dataB,h2]
theorem rg_3y (b0 b1 b2 b3 b4 b5 b6 b7:UInt8) (h2:0 < 7 - b0.toNat / 2 % 8):guessM 3 [b0,b1,b2,b3,b4,b5,b6,b7]=onlyM 3 ⟨3,(leN [b1,b2]:Nat),(b3.toNat:Int),decide (b0.toNat / 16 % 2=1),decide (b0.toNat % 2=1),decide (b0.toNat / 4 % 2=1),false,leN [b4,b5,b6,b7],leN [b4,b5,b6,b7],([b0,b1,b2,b3,b4,b5,b6,b7].drop 1).take (7 - b0.toNat / 2 % 8),(b1.toNat:Int),(b2.toNat:Int),(b0.toNat:Int) / 4 % 8,leN [b1,b2]⟩:= by
 have hb0:=b0.toNat_lt
 skip
 skip
 skip
 simp[guessM,preM,formI,byt,datF,datN,onlyM,placedB,dataB]
theorem rg_3n (b0 b1 b2 b3 b4 b5 b6 b7:UInt8) (h2: ¬ 0 < 7 - b0.toNat / 2 % 8):guessM 3 [b0,b1,b2,b3,b4,b5,b6,b7]=onlyM 3 ⟨3,(leN [b1,b2]:Nat),(b3.toNat:Int),decide (b0.toNat / 16 % 2=1),decide (b0.toNat % 2=1),decide (b0.toNat / 4 % 2=1),false,leN [b4,b5,b6,b7],leN [b4,b5,b6,b7],[],(b1.toNat:Int),(b2.toNat:Int),(b0.toNat:Int) / 4 % 8,leN [b1,b2]⟩:= by
 have hb0:=b0.toNat_lt
 skip
 skip
 have h3:7 - b0.toNat / 2 % 8=0:=by omega
 simp[guessM,preM,formI,byt,datF,datN,onlyM,placedB,dataB,h3]
theorem znj (b0 b1 b2 b3 b4 b5 b6 b7:UInt8) (h2:0 < 7 - b0.toNat / 2 % 8):guessM 15 [b0,b1,b2,b3,b4,b5,b6,b7]=onlyM 3 ⟨15,(leN [b1,b2]:Nat),(b3.toNat:Int),decide (b0.toNat / 16 % 2=1),decide (b0.toNat % 2=1),decide (b0.toNat / 4 % 2=1),false,leN [b4,b5,b6,b7],leN [b4,b5,b6,b7],([b0,b1,b2,b3,b4,b5,b6,b7].drop 1).take (7 - b0.toNat / 2 % 8),(b1.toNat:Int),(b2.toNat:Int),(b0.toNat:Int) / 4 % 8,leN [b1,b2]⟩:= by
 have hb0:=b0.toNat_lt
 skip
 skip
 skip
 simp[guessM,preM,formI,byt,datF,datN,onlyM,placedB,dataB]
theorem znk (b0 b1 b2 b3 b4 b5 b6 b7:UInt8) (h2: ¬ 0 < 7 - b0.toNat / 2 % 8):guessM 15 [b0,b1,b2,b3,b4,b5,b6,b7]=onlyM 3 ⟨15,(leN [b1,b2]:Nat),(b3.toNat:Int),decide (b0.toNat / 16 % 2=1),decide (b0.toNat % 2=1),decide (b0.toNat / 4 % 2=1),false,leN [b4,b5,b6,b7],leN [b4,b5,b6,b7],[],(b1.toNat:Int),(b2.toNat:Int),(b0.toNat:Int) / 4 % 8,leN [b1,b2]⟩:= by
 have hb0:=b0.toNat_lt
 skip
 skip
 have h3:7 - b0.toNat / 2 % 8=0:=by omega
 simp[guessM,preM,formI,byt,datF,datN,onlyM,placedB,dataB,h3]
theorem rg_6 (b0 b1 b2 b3 b4 b5 b6 b7:UInt8):guessM 6 [b0,b1,b2,b3,b4,b5,b6,b7]=onlyM 6 ⟨6,(leN [b1,b2]:Nat),(b3.toNat:Int),decide (b0.toNat / 16 % 2=1),decide (b0.toNat % 2=1),decide (b0.toNat / 4 % 2=1),decide (b0.toNat / 2 % 2=1),leN [b4,b5,b6,b7],leN [b4,b5,b6,b7],[],(b1.toNat:Int),(b2.toNat:Int),(b0.toNat:Int) / 4 % 8,leN [b1,b2]⟩:= by
 have hb0:=b0.toNat_lt
 skip
 skip
 skip
 simp[guessM,preM,formI,byt,datF,datN,onlyM,placedB,dataB]
theorem rg_19 (b0 b1 b2 b3 b4 b5 b6 b7:UInt8):guessM 19 [b0,b1,b2,b3,b4,b5,b6,b7]=onlyM 6 ⟨19,(leN [b1,b2]:Nat),(b3.toNat:Int),decide (b0.toNat / 16 % 2=1),decide (b0.toNat % 2=1),decide (b0.toNat / 4 % 2=1),decide (b0.toNat / 2 % 2=1),leN [b4,b5,b6,b7],leN [b4,b5,b6,b7],[],(b1.toNat:Int),(b2.toNat:Int),(b0.toNat:Int) / 4 % 8,leN [b1,b2]⟩:= by
 have hb0:=b0.toNat_lt
 skip
 skip
 skip
 simp[guessM,preM,formI,byt,datF,datN,onlyM,placedB,dataB]
theorem rg_8 (b0 b1 b2 b3 b4 b5 b6 b7:UInt8):guessM 8 [b0,b1,b2,b3,b4,b5,b6,b7]=onlyM 8 ⟨8,(leN [b1,b2]:Nat),(b3.toNat:Int),decide (b0.toNat / 16 % 2=1),decide (b0.toNat % 2=1),decide (b0.toNat / 4 % 2=1),false,leN [b4,b5,b6,b7],leN [b4,b5,b6,b7],[],(b1.toNat:Int),(b4.toNat:Int),(b0.toNat:Int) / 4 % 8,leN [b1,b2]⟩:= by
 have hb0:=b0.toNat_lt
 skip
 skip
 skip
 simp[guessM,preM,formI,byt,datF,datN,onlyM,placedB,dataB]
theorem rg_16 (b0 b1 b2 b3 b4 b5 b6 b7:UInt8):guessM 16 [b0,b1,b2,b3,b4,b5,b6,b7]=onlyM 8 ⟨16,(leN [b1,b2]:Nat),(b3.toNat:Int),decide (b0.toNat / 16 % 2=1),decide (b0.toNat % 2=1),decide (b0.toNat / 4 % 2=1),false,leN [b4,b5,b6,b7],leN [b4,b5,b6,b7],[],(b1.toNat:Int),(b4.toNat:Int),(b0.toNat:Int) / 4 % 8,leN [b1,b2]⟩:= by
 have hb0:=b0.toNat_lt
 skip
 skip
 skip
 simp[guessM,preM,formI,byt,datF,datN,onlyM,placedB,dataB]
theorem rg_21 (b0 b1 b2 b3 b4 b5 b6 b7:UInt8):guessM 21 [b0,b1,b2,b3,b4,b5,b6,b7]=onlyM 11 ⟨21,(leN [b1,b2]:Nat),(b3.toNat:Int),decide (b0.toNat / 16 % 2=1),decide ((128:Int)≤ (b0.toNat:Int)),decide (b0.toNat / 4 % 2=1),false,leN [b4,b5,b6,b7],leN [b4,b5,b6,b7],([b0,b1,b2,b3,b4,b5,b6,b7].drop 1).take 7,((b0.toNat:Int) % 128),(b2.toNat:Int),(b0.toNat:Int) / 4 % 8,leN [b1,b2]⟩:= by
 have hb0:=b0.toNat_lt
 have h9:decide ((128:Int)≤ (b0.toNat:Int))=decide (128≤b0.toNat):= by rw[Bool.eq_iff_iff];simp;omega
 rw[h9]
 skip
 simp[guessM,preM,formI,byt,datF,datN,onlyM,placedB,dataB]
end
end Go.Proofs.Ythdbckbpldlkeaa
