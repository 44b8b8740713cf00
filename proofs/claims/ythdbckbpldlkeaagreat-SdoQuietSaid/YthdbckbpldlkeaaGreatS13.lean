/- None -/
import Derived.Test.YthdbckbpldlkeaaGreatS08
import Derived.Test.YthdbckbpldlkeaaGreatS09
import Derived.Test.YthdbckbpldlkeaaGreatS10
import Derived.Test.YthdbckbpldlkeaaGreatS12
namespace Go.Proofs.YthdbckbpldlkeaaGreat
set_option linter.unusedVariables false
set_option linter.unusedSimpArgs false
set_option linter.unnecessarySimpa false
section
section
open Go.RowKit
set_option maxRecDepth 100000
set_option maxHeartbeats 4000000
theorem zfr (k:Int) (A:Option Addr) (n c:Nat) (b:List UInt8) (w:World) (hn:n=b.length) (h8:b.length=8) (hc:n≤c) (hs:Sl w A (b.map bv)) :
 Calls Tryz.prog 219 #[.int .i64 k,.slice A n c] w (GuessR k b w):= by
 have h:=zcf k
 rcases (show (formI k=0∨formI k=1∨formI k=4∨formI k=5∨formI k=10)∨ (formI k=2∨formI k=3∨formI k=6)∨ (formI k=7∨formI k=8∨formI k=9∨formI k=11) by omega) with g | g | g
 · exact zfg k A n c b w hn h8 hc hs _ rfl g
 · exact zfh k A n c b w hn h8 hc hs _ rfl g
 · exact zfi k A n c b w hn h8 hc hs _ rfl g
end
section
open Go.RowKit
set_option maxRecDepth 100000
set_option maxHeartbeats 2000000
theorem zfs (f:Int) (M:Ms) (h1:M.size≤4294967295) (h2:M.code≤4294967295) (h3:M.sum≤65535):(onlyM f M).size≤4294967295∧(onlyM f M).code≤4294967295∧(onlyM f M).sum≤65535:=by
 unfold onlyM
 refine⟨?_,?_,?_⟩<;> (simp only[];split<;>omega)
theorem zft (k:Int) (b:List UInt8):(guessM k b).size≤4294967295∧(guessM k b).code≤4294967295∧(guessM k b).sum≤65535:=by
 have h4:leN ((b.drop 4).take 4)≤ 4294967295:=by
  have h:=zan ((b.drop 4).take 4)
  have hp:256 ^ ((b.drop 4).take 4).length≤256 ^ 4:=Nat.pow_le_pow_right (by omega) (List.length_take_le _ _)
  have:(256:Nat) ^ 4=4294967296:=by decide
  omega
 have h2:leN ((b.drop 1).take 2)≤ 65535:=by
  have h:=zan ((b.drop 1).take 2)
  have hp:256 ^ ((b.drop 1).take 2).length≤256 ^ 2:=Nat.pow_le_pow_right (by omega) (List.length_take_le _ _)
  have:(256:Nat) ^ 2=65536:=by decide
  omega
 exact zfs _ (preM k b) h4 h4 h2
theorem zfu (M:Ms) (A:Option Addr) (n c:Nat) (w:World) (hn:n=M.data.length) (hs:Sl w A (M.data.map bv)) (hu1:M.size≤4294967295) (hu2:M.code≤4294967295) (hu3:M.sum≤65535) :
 Calls Tryz.prog 137 #[.agg (msV M A n c)] w (BuildM M w):= by
 cases h:canB M
 · exact zfp M A n c w hn hs h
 · exact zfq M A n c w hn hs h hu1 hu2 hu3
def iv (k:Int):Value:= .int .i64 k
def ReadR (ks:List Int) (b:List UInt8) (w:World) (e:Ending) (w':World):Prop:=
 ∃ A' n' c',e= .returned (.tuple #[.agg (msV (resM ks b) A' n' c'),.int .i64 (errI ks b)])∧ zdq w' w.heap.size A' n' c' (resM ks b).data∧Below w.heap.size w w'
theorem zfv (ks:List Int) (b:List UInt8) (w:World) (h:b.length≠8) (h8:errI ks b=if b.length < 8 then 2 else 3) (e:Ending) (w':World) (he:e= .returned (.tuple #[.agg (msV msZ none 0 0),.int .i64 (if b.length < 8 then 2 else 3)])) (hb:Below w.heap.size w w'):ReadR ks b w e w':=by
 have:resM ks b=msZ:=by unfold resM;rw[if_neg h]
 exact⟨none,0,0,by rw[this,h8,he],by rw[this];exact zdq.nil _ _,hb⟩
theorem zfw (ks:List Int) (A:Option Addr) (n c:Nat) (K:Value) (b:List UInt8) (w:World) (hn:n=b.length) (h8:b.length≠8) :
 Calls Tryz.prog 186 #[.slice A n c,K] w (ReadR ks b w):= by
 rcases Nat.lt_or_gt_of_ne h8 with h | h
 · have HE:Hid (∀ e w',e= .returned (.tuple #[.agg (msV msZ none 0 0),.int .i64 2])→ Below w.heap.size w w'→ReadR ks b w e w'):= zak (fun e w' he hb=>zfv ks b w h8 (by unfold errI;rw[if_pos h,if_pos h]) e w' (by rw[if_pos h];exact he) hb)
   have hn8:n < 8:=by omega
   clear h h8 hn
   go_enter Tryz.func186,Tryz.ntmps186
   go_wp2_with fail
   refine bodyPost_ret (v:= .tuple #[.agg (msV msZ none 0 0),.int .i64 2]) (by simp[results,Tryz.results186,go_sem,msV,msZ]) rfl (HE.out _ _ rfl (by repeat' (first | with_reducible assumption | with_reducible exact Below.refl _ _ | with_reducible apply zc1 | with_reducible apply zdm | with_reducible apply zdl | (with_reducible apply zc0;with_reducible assumption) | (with_reducible apply zdn;(first | exact Nat.le_refl _ | (simp;done) | omega)))))
 · have HE:Hid (∀ e w',e= .returned (.tuple #[.agg (msV msZ none 0 0),.int .i64 3])→ Below w.heap.size w w'→ReadR ks b w e w'):= zak (fun e w' he hb=>zfv ks b w h8 (by unfold errI;rw[if_neg (by omega),if_pos h,if_neg (by omega)]) e w' (by rw[if_neg (by omega)];exact he) hb)
   have hn8:8 < n:=by omega
   clear h h8 hn
   go_enter Tryz.func186,Tryz.ntmps186
   go_wp2_with fail
   refine bodyPost_ret (v:= .tuple #[.agg (msV msZ none 0 0),.int .i64 3]) (by simp[results,Tryz.results186,go_sem,msV,msZ]) rfl (HE.out _ _ rfl (by repeat' (first | with_reducible assumption | with_reducible exact Below.refl _ _ | with_reducible apply zc1 | with_reducible apply zdm | with_reducible apply zdl | (with_reducible apply zc0;with_reducible assumption) | (with_reducible apply zdn;(first | exact Nat.le_refl _ | (simp;done) | omega)))))
end
section
open Go.RowKit
set_option maxRecDepth 100000
set_option maxHeartbeats 2000000
theorem zfx (k:Int) (ks:List Int) (b:List UInt8) (h:hitB k b=false):ofM (k :: ks) b=ofM ks b:=by
 rw[ofM,h];rfl
theorem zfy (ks:List Int) (A:Option Addr) (c:Nat) (gk ck:Nat) (b:List UInt8) (w:World) (h8:b.length=8) (hc:8≤c) (hs:Sl w A (b.map bv)) (hk:Sl w (some ⟨gk,0,none⟩) (ks.map iv)) (hkl:ks.length≤100) :
 Calls Tryz.prog 186 #[.slice A 8 c,.slice (some ⟨gk,0,none⟩) ks.length ck] w (ReadR ks b w):= by
 have HE:Hid (∀ m A' n' c' e w',ofM ks b=some m→e= .returned (.tuple #[.agg (msV m A' n' c'),.int .i64 0])→ zdq w' w.heap.size A' n' c' m.data→Below w.heap.size w w'→ReadR ks b w e w'):= zak (by
  intro m A' n' c' e w' hm he hO hb
  have h1:resM ks b=m:=by unfold resM;rw[if_pos h8,hm];rfl
  have h2:errI ks b=0:=by unfold errI;rw[if_neg (by omega),if_neg (by omega),hm];rfl
  exact⟨A',n',c',by rw[h1,h2];exact he,by rw[h1];exact hO,hb⟩)
 have HNO:Hid (∀ e w',ofM ks b=none→e= .returned (.tuple #[.agg (msV msZ none 0 0),.int .i64 4])→ Below w.heap.size w w'→ReadR ks b w e w'):= zak (by
  intro e w' hm he hb
  have h1:resM ks b=msZ:=by unfold resM;rw[if_pos h8,hm];rfl
  have h2:errI ks b=4:=by unfold errI;rw[if_neg (by omega),if_neg (by omega),hm];rfl
  exact⟨none,0,0,by rw[h1,h2];exact he,by rw[h1];exact zdq.nil _ _,hb⟩)
 have H8:=zak h8
 obtain⟨P,hP⟩:∃ P,P=ReadR ks b w:=⟨_,rfl⟩
 rw[← hP] at HE HNO ⊢
 clear h8 hP
 have hlk:ks.length≤4611686018427387904:=by omega
 go_enter Tryz.func186,Tryz.ntmps186
 go_wp2_with fail
 go_loopw [23] (fun i wr=> ∃ j:Nat,j≤ks.length∧i= .int .i64 (j:Nat)∧ ofM ks b=ofM (ks.drop j) b∧Below w.heap.size w wr∧Blk wr w.heap.size 102 (msV msZ none 0 0)) (fun i _=>ks.length - (intOf i).toNat)
 case atStart=>
  exact⟨0,by omega,rfl,rfl,(by repeat' (first | with_reducible assumption | with_reducible exact Below.refl _ _ | with_reducible apply zc1 | with_reducible apply zdm | with_reducible apply zdl | (with_reducible apply zc0;with_reducible assumption) | (with_reducible apply zdn;(first | exact Nat.le_refl _ | (simp;done) | omega)))),zdb w _ _⟩
 case round=>
  obtain⟨j,hj,rfl,hof,hbr,qr⟩:= hrel
  have HOF:=zak hof
  clear hof
  by_cases hlt:j < ks.length
  case neg=>
   have HN:Hid (ofM ks b=none):= zak (by rw[HOF.out,List.drop_of_length_le (by omega)];rfl)
   simp only[msV,msZ] at qr
   obtain⟨qr_c0,qr_c1,qr_c2,qr_c3,qr_c4,qr_c5,qr_c6,qr_c7,qr_c8,qr_c9,qr_c10,qr_c11,qr_c12,qr_c13⟩:= zc9 qr
   have qr_f:=qr.frozen
   go_wp2_with fail
   refine bodyPost_ret (v:= .tuple #[.agg (msV msZ none 0 0),.int .i64 4]) (by simp[results,Tryz.results186,go_sem,msV,msZ,qr_c0,qr_c1,qr_c2,qr_c3,qr_c4,qr_c5,qr_c6,qr_c7,qr_c8,qr_c9,qr_c10,qr_c11,qr_c12,qr_c13,qr_f]) rfl (HNO.out _ _ HN.out rfl ?_)
   repeat' (first | with_reducible assumption | with_reducible exact Below.refl _ _ | with_reducible apply zc1 | with_reducible apply zdm | with_reducible apply zdl | (with_reducible apply zc0;with_reducible assumption) | (with_reducible apply zdn;(first | exact Nat.le_refl _ | (simp;done) | omega)))
  case pos=>
   obtain⟨k,hkj⟩:∃ k,k=ks[j]:= ⟨_,rfl⟩
   obtain⟨gk',ok',e1,hck⟩:= hk.at_ (j:=j) (u:=iv k) (by rw[hkj];simp[hlt])
   injection e1 with e1
   injection e1 with e1 e2
   subst e1 e2
   have lgk:=zal hck
   have hck':=(hbr.cell (p:=⟨gk,0+j,none⟩) lgk).trans hck
   simp only[Nat.zero_add,iv] at hck'
   have HK:=zak hkj
   have HD:Hid (ks.drop j=k :: ks.drop (j+1)):= zak (by rw[hkj];exact List.drop_eq_getElem_cons hlt)
   clear hkj hck
   have hjn:((j:Nat):Int).toNat=j:=by omega
   have hjl:(j:Int) < (ks.length:Int):= by omega
   go_wp2_with fail
   refine (zfr k A 8 c b _ H8.out.symm H8.out hc (hs.below hbr)).mono ?_
   rintro e w2 ⟨A2,n2,c2,rfl,hO2,hb2⟩
   have hbd:=zft k b
   obtain⟨N,hN⟩:∃ N,N=guessM k b:=⟨_,rfl⟩
   rw[← hN] at hO2 hbd ⊢
   have HN:=zak hN
   clear hN
   obtain⟨kind,ix,sub,tg,la,cr,sz,size,code,data,sq,bl,em,sum⟩:= N
   simp only[msV] at hO2 hbd ⊢
   obtain⟨bd1,bd2,bd3⟩:= hbd
   go_wp2_with fail
   refine (zfu ⟨kind,ix,sub,tg,la,cr,sz,size,code,data,sq,bl,em,sum⟩ A2 n2 c2 _ hO2.hn (hO2.sl.alloc _) bd1 bd2 bd3).mono ?_
   rintro e w3 ⟨A3,n3,c3,rfl,hO3,hb3⟩
   have hbw3:Below w.heap.size w w3:=zc0 hb3 (zc1 (zc0 hb2 hbr) _)
   have lr:=qr.lt
   have qr3:=((qr.below hb2 lr).alloc (.cells #[.int .i64 kind,.int .i64 ix,.int .i64 sub,.bool tg,.bool la,.bool cr,.bool sz,.int .u32 (size:Nat),.int .u32 (code:Nat),.slice A2 n2 c2,.int .i64 sq,.int .i64 bl,.int .i64 em,.int .u16 (sum:Nat)] 102)).below hb3 (by have:=hb2.size;simp;omega)
   cases hcan:canB ⟨kind,ix,sub,tg,la,cr,sz,size,code,data,sq,bl,em,sum⟩
   case false=>
    have HH:Hid (hitB k b=false):= zak (by unfold hitB;rw[← HN.out,hcan,Bool.false_and])
    rw[show (if false=true then (0:Int) else 1)=1 from rfl]
    clear hO3 hcan
    go_wp2_with fail
    go_roundw
    case rel=>exact⟨j+1,by omega,by go_num,by rw[HOF.out,HD.out,zfx _ _ _ HH.out],hbw3,qr3⟩
    case measure=>simp[intOf];omega
   case true=>
    rw[hcan] at hO3
    rw[show (if true=true then (0:Int) else 1)=0 from rfl]
    rw[if_pos rfl] at hO3
    have t1:=zds c3 hO3.hn hO3.sl
    have t2:=zds c H8.out.symm (hs.below hbw3)
    have HC:=zak hcan
    clear hcan
    by_cases heq:laidB ⟨kind,ix,sub,tg,la,cr,sz,size,code,data,sq,bl,em,sum⟩=b
    case neg=>
     have HH:Hid (hitB k b=false):= zak (by unfold hitB;rw[← HN.out,decide_eq_false heq,Bool.and_false])
     obtain⟨s1,hs1⟩:∃ s:ByteArray,s=⟨(laidB ⟨kind,ix,sub,tg,la,cr,sz,size,code,data,sq,bl,em,sum⟩).toArray⟩:= ⟨_,rfl⟩
     obtain⟨s2,hs2⟩:∃ s:ByteArray,s=⟨b.toArray⟩:= ⟨_,rfl⟩
     have hx:(s1.toList == s2.toList)=false:=by
      rw[beq_eq_false_iff_ne,hs1,hs2]
      intro h
      exact heq (by simpa using h)
     rw[← hs1] at t1
     rw[← hs2] at t2
     clear heq hs1 hs2 hO3
     go_wp2_with fail
     go_roundw
     case rel=>exact⟨j+1,by omega,by go_num,by rw[HOF.out,HD.out,zfx _ _ _ HH.out],hbw3,qr3⟩
     case measure=>simp[intOf];omega
    case pos=>
     have HM:Hid (ofM ks b=some ⟨kind,ix,sub,tg,la,cr,sz,size,code,data,sq,bl,em,sum⟩):= zak (by rw[HOF.out,HD.out,ofM];rw[if_pos (by unfold hitB;rw[← HN.out,HC.out,decide_eq_true heq];rfl),← HN.out])
     rw[heq] at t1
     have qm3:=(Blk.new w2 102 #[.int .i64 kind,.int .i64 ix,.int .i64 sub,.bool tg,.bool la,.bool cr,.bool sz,.int .u32 (size:Nat),.int .u32 (code:Nat),.slice A2 n2 c2,.int .i64 sq,.int .i64 bl,.int .i64 em,.int .u16 (sum:Nat)]).below hb3 (by simp)
     have hO4:=(hO2.alloc (.cells #[.int .i64 kind,.int .i64 ix,.int .i64 sub,.bool tg,.bool la,.bool cr,.bool sz,.int .u32 (size:Nat),.int .u32 (code:Nat),.slice A2 n2 c2,.int .i64 sq,.int .i64 bl,.int .i64 em,.int .u16 (sum:Nat)] 102)).below hb3
     simp only[msV,msZ] at qr3
     clear heq hO3 hO2
     obtain⟨s2,hs2⟩:∃ s:ByteArray,s=⟨b.toArray⟩:= ⟨_,rfl⟩
     rw[← hs2] at t1 t2
     clear hs2
     obtain⟨qm3_c0,qm3_c1,qm3_c2,qm3_c3,qm3_c4,qm3_c5,qm3_c6,qm3_c7,qm3_c8,qm3_c9,qm3_c10,qm3_c11,qm3_c12,qm3_c13⟩:= zc9 qm3
     have qm3_f:=qm3.frozen
     obtain⟨qr3_c0,qr3_c1,qr3_c2,qr3_c3,qr3_c4,qr3_c5,qr3_c6,qr3_c7,qr3_c8,qr3_c9,qr3_c10,qr3_c11,qr3_c12,qr3_c13⟩:= zc9 qr3
     have qr3_f:=qr3.frozen
     go_wp2_with fail
     refine bodyPost_ret (v:= .tuple #[.agg #[.int .i64 kind,.int .i64 ix,.int .i64 sub,.bool tg,.bool la,.bool cr,.bool sz,.int .u32 (size:Nat),.int .u32 (code:Nat),.slice A2 n2 c2,.int .i64 sq,.int .i64 bl,.int .i64 em,.int .u16 (sum:Nat)],.int .i64 0]) (by simp[results,Tryz.results186,go_sem,qr3_c0,qr3_c1,qr3_c2,qr3_c3,qr3_c4,qr3_c5,qr3_c6,qr3_c7,qr3_c8,qr3_c9,qr3_c10,qr3_c11,qr3_c12,qr3_c13,qr3_f]) rfl (HE.out _ A2 n2 c2 _ _ HM.out rfl ?_ ?_)
     · exact (ze1 hO4 lr _ _ _ _ _ _ _ _ _ _ _ _ _ _).mono hbr.size
     · repeat' (first | with_reducible assumption | with_reducible exact Below.refl _ _ | with_reducible apply zc1 | with_reducible apply zdm | with_reducible apply zdl | (with_reducible apply zc0;with_reducible assumption) | (with_reducible apply zdn;(first | exact Nat.le_refl _ | (simp;done) | omega)))
end
section
open Go.RowKit
set_option maxRecDepth 100000
set_option maxHeartbeats 2000000
theorem zfz (ks:List Int) (A:Option Addr) (n c:Nat) (gk nk ck:Nat) (b:List UInt8) (w:World) (hn:n=b.length) (hc:n≤c) (hs:Sl w A (b.map bv)) (hnk:nk=ks.length) (hk:Sl w (some ⟨gk,0,none⟩) (ks.map iv)) (hkl:nk≤100) :
 Calls Tryz.prog 186 #[.slice A n c,.slice (some ⟨gk,0,none⟩) nk ck] w (ReadR ks b w):= by
 subst hnk
 by_cases h8:b.length=8
 · obtain rfl:n=8:=by omega
   exact zfy ks A c gk ck b w h8 hc hs hk hkl
 · exact zfw ks A n c _ b w hn h8
theorem zf0 {w:World} {g t:Nat} {ks:List Int} {cs:Array Value} (h:Blk w g t cs) (e:cs.toList=ks.map iv):Sl w (some ⟨g,0,none⟩) (ks.map iv):= by rw[← e];exact h.sl
theorem zf1 (A:Option Addr) (n c:Nat) (b:List UInt8) (w:World) (hn:n=b.length) (hc:n≤c) (hs:Sl w A (b.map bv)) :
 Calls Tryz.prog 136 #[.slice A n c] w (ReadR reqK b w):= by
 have HE:Hid (∀ A' n' c' w',zdq w' w.heap.size A' n' c' (resM reqK b).data→Below w.heap.size w w'→ReadR reqK b w (.returned (.tuple #[.agg (msV (resM reqK b) A' n' c'),.int .i64 (errI reqK b)])) w'):= zak (fun A' n' c' w' h1 h2=>⟨A',n',c',rfl,h1,h2⟩)
 obtain⟨P,hP⟩:∃ P,P=ReadR reqK b w:=⟨_,rfl⟩
 rw[← hP] at HE ⊢
 clear hP
 have HB:=zak (fun W gk nk ck h1 h2 h3=>zfz reqK A n c gk nk ck b W hn hc h1 (show nk=11 from h3) h2 (by omega))
 have q:=zdc w 102 3 #[.int .i64 0,.int .i64 0,.int .i64 0,.bool false,.bool false,.bool false,.bool false,.int .u32 0,.int .u32 0,.slice none 0 0,.int .i64 0,.int .i64 0,.int .i64 0,.int .u16 0] #[.int .i64 1,.int .i64 2,.int .i64 3,.int .i64 4,.int .i64 5,.int .i64 6,.int .i64 7,.int .i64 8,.int .i64 9,.int .i64 10,.int .i64 11]
 have hs1:=(hs.alloc (.cells #[.int .i64 0,.int .i64 0,.int .i64 0,.bool false,.bool false,.bool false,.bool false,.int .u32 0,.int .u32 0,.slice none 0 0,.int .i64 0,.int .i64 0,.int .i64 0,.int .u16 0] 102)).alloc (.cells #[.int .i64 1,.int .i64 2,.int .i64 3,.int .i64 4,.int .i64 5,.int .i64 6,.int .i64 7,.int .i64 8,.int .i64 9,.int .i64 10,.int .i64 11] 3)
 clear hn hc
 go_enter Tryz.func136,Tryz.ntmps136
 go_wp2_with fail
 obtain⟨q0,q1⟩:= q
 have lq:=q0.lt
 have hbw:Below w.heap.size w ((w.alloc (.cells #[.int .i64 0,.int .i64 0,.int .i64 0,.bool false,.bool false,.bool false,.bool false,.int .u32 0,.int .u32 0,.slice none 0 0,.int .i64 0,.int .i64 0,.int .i64 0,.int .u16 0] 102)).alloc (.cells #[.int .i64 1,.int .i64 2,.int .i64 3,.int .i64 4,.int .i64 5,.int .i64 6,.int .i64 7,.int .i64 8,.int .i64 9,.int .i64 10,.int .i64 11] 3)):= (by repeat' (first | with_reducible assumption | with_reducible exact Below.refl _ _ | with_reducible apply zc1 | with_reducible apply zdm | with_reducible apply zdl | (with_reducible apply zc0;with_reducible assumption) | (with_reducible apply zdn;(first | exact Nat.le_refl _ | (simp;done) | omega))))
 have hsz:w.heap.size≤((w.alloc (.cells #[.int .i64 0,.int .i64 0,.int .i64 0,.bool false,.bool false,.bool false,.bool false,.int .u32 0,.int .u32 0,.slice none 0 0,.int .i64 0,.int .i64 0,.int .i64 0,.int .u16 0] 102)).alloc (.cells #[.int .i64 1,.int .i64 2,.int .i64 3,.int .i64 4,.int .i64 5,.int .i64 6,.int .i64 7,.int .i64 8,.int .i64 9,.int .i64 10,.int .i64 11] 3)).heap.size:=hbw.size
 generalize (w.alloc (.cells #[.int .i64 0,.int .i64 0,.int .i64 0,.bool false,.bool false,.bool false,.bool false,.int .u32 0,.int .u32 0,.slice none 0 0,.int .i64 0,.int .i64 0,.int .i64 0,.int .u16 0] 102)).alloc (.cells #[.int .i64 1,.int .i64 2,.int .i64 3,.int .i64 4,.int .i64 5,.int .i64 6,.int .i64 7,.int .i64 8,.int .i64 9,.int .i64 10,.int .i64 11] 3)=W at *
 refine (HB.out W _ 11 11 hs1 (zf0 q1 rfl) rfl).mono ?_
 rintro e w2 ⟨A2,n2,c2,rfl,hO2,hb2⟩
 generalize resM reqK b=N at *
 generalize errI reqK b=er at *
 replace hbw:=zc0 hb2 hbw
 have qr:=q0.below hb2 lq
 obtain⟨kind,ix,sub,tg,la,cr,sz,size,code,data,sq,bl,em,sum⟩:= N
 simp only[msV] at hO2 HE ⊢
 obtain⟨qr_c0,qr_c1,qr_c2,qr_c3,qr_c4,qr_c5,qr_c6,qr_c7,qr_c8,qr_c9,qr_c10,qr_c11,qr_c12,qr_c13⟩:= zc9 qr
 have qr_f:=qr.frozen
 clear q0 q1 hs1
 go_wp2_with fail
 refine bodyPost_ret (v:= .tuple #[.agg #[.int .i64 kind,.int .i64 ix,.int .i64 sub,.bool tg,.bool la,.bool cr,.bool sz,.int .u32 (size:Nat),.int .u32 (code:Nat),.slice A2 n2 c2,.int .i64 sq,.int .i64 bl,.int .i64 em,.int .u16 (sum:Nat)],.int .i64 er]) (by simp[results,Tryz.results136,go_sem,qr_c0,qr_c1,qr_c2,qr_c3,qr_c4,qr_c5,qr_c6,qr_c7,qr_c8,qr_c9,qr_c10,qr_c11,qr_c12,qr_c13,qr_f]) rfl (HE.out A2 n2 c2 _ ?_ ?_)
 · exact (ze1 hO2 lq _ _ _ _ _ _ _ _ _ _ _ _ _ _).mono hsz
 · repeat' (first | with_reducible assumption | with_reducible exact Below.refl _ _ | with_reducible apply zc1 | with_reducible apply zdm | with_reducible apply zdl | (with_reducible apply zc0;with_reducible assumption) | (with_reducible apply zdn;(first | exact Nat.le_refl _ | (simp;done) | omega)))
theorem zf2 (A:Option Addr) (n c:Nat) (b:List UInt8) (w:World) (hn:n=b.length) (hc:n≤c) (hs:Sl w A (b.map bv)) :
 Calls Tryz.prog 135 #[.slice A n c] w (ReadR segK b w):= by
 have HE:Hid (∀ A' n' c' w',zdq w' w.heap.size A' n' c' (resM segK b).data→Below w.heap.size w w'→ReadR segK b w (.returned (.tuple #[.agg (msV (resM segK b) A' n' c'),.int .i64 (errI segK b)])) w'):= zak (fun A' n' c' w' h1 h2=>⟨A',n',c',rfl,h1,h2⟩)
 obtain⟨P,hP⟩:∃ P,P=ReadR segK b w:=⟨_,rfl⟩
 rw[← hP] at HE ⊢
 clear hP
 have HB:=zak (fun W gk nk ck h1 h2 h3=>zfz segK A n c gk nk ck b W hn hc h1 (show nk=1 from h3) h2 (by omega))
 have q:=zdc w 102 3 #[.int .i64 0,.int .i64 0,.int .i64 0,.bool false,.bool false,.bool false,.bool false,.int .u32 0,.int .u32 0,.slice none 0 0,.int .i64 0,.int .i64 0,.int .i64 0,.int .u16 0] #[.int .i64 21]
 have hs1:=(hs.alloc (.cells #[.int .i64 0,.int .i64 0,.int .i64 0,.bool false,.bool false,.bool false,.bool false,.int .u32 0,.int .u32 0,.slice none 0 0,.int .i64 0,.int .i64 0,.int .i64 0,.int .u16 0] 102)).alloc (.cells #[.int .i64 21] 3)
 clear hn hc
 go_enter Tryz.func135,Tryz.ntmps135
 go_wp2_with fail
 obtain⟨q0,q1⟩:= q
 have lq:=q0.lt
 have hbw:Below w.heap.size w ((w.alloc (.cells #[.int .i64 0,.int .i64 0,.int .i64 0,.bool false,.bool false,.bool false,.bool false,.int .u32 0,.int .u32 0,.slice none 0 0,.int .i64 0,.int .i64 0,.int .i64 0,.int .u16 0] 102)).alloc (.cells #[.int .i64 21] 3)):= (by repeat' (first | with_reducible assumption | with_reducible exact Below.refl _ _ | with_reducible apply zc1 | with_reducible apply zdm | with_reducible apply zdl | (with_reducible apply zc0;with_reducible assumption) | (with_reducible apply zdn;(first | exact Nat.le_refl _ | (simp;done) | omega))))
 have hsz:w.heap.size≤((w.alloc (.cells #[.int .i64 0,.int .i64 0,.int .i64 0,.bool false,.bool false,.bool false,.bool false,.int .u32 0,.int .u32 0,.slice none 0 0,.int .i64 0,.int .i64 0,.int .i64 0,.int .u16 0] 102)).alloc (.cells #[.int .i64 21] 3)).heap.size:=hbw.size
 generalize (w.alloc (.cells #[.int .i64 0,.int .i64 0,.int .i64 0,.bool false,.bool false,.bool false,.bool false,.int .u32 0,.int .u32 0,.slice none 0 0,.int .i64 0,.int .i64 0,.int .i64 0,.int .u16 0] 102)).alloc (.cells #[.int .i64 21] 3)=W at *
 refine (HB.out W _ 1 1 hs1 (zf0 q1 rfl) rfl).mono ?_
 rintro e w2 ⟨A2,n2,c2,rfl,hO2,hb2⟩
 generalize resM segK b=N at *
 generalize errI segK b=er at *
 replace hbw:=zc0 hb2 hbw
 have qr:=q0.below hb2 lq
 obtain⟨kind,ix,sub,tg,la,cr,sz,size,code,data,sq,bl,em,sum⟩:= N
 simp only[msV] at hO2 HE ⊢
 obtain⟨qr_c0,qr_c1,qr_c2,qr_c3,qr_c4,qr_c5,qr_c6,qr_c7,qr_c8,qr_c9,qr_c10,qr_c11,qr_c12,qr_c13⟩:= zc9 qr
 have qr_f:=qr.frozen
 clear q0 q1 hs1
 go_wp2_with fail
 refine bodyPost_ret (v:= .tuple #[.agg #[.int .i64 kind,.int .i64 ix,.int .i64 sub,.bool tg,.bool la,.bool cr,.bool sz,.int .u32 (size:Nat),.int .u32 (code:Nat),.slice A2 n2 c2,.int .i64 sq,.int .i64 bl,.int .i64 em,.int .u16 (sum:Nat)],.int .i64 er]) (by simp[results,Tryz.results135,go_sem,qr_c0,qr_c1,qr_c2,qr_c3,qr_c4,qr_c5,qr_c6,qr_c7,qr_c8,qr_c9,qr_c10,qr_c11,qr_c12,qr_c13,qr_f]) rfl (HE.out A2 n2 c2 _ ?_ ?_)
 · exact (ze1 hO2 lq _ _ _ _ _ _ _ _ _ _ _ _ _ _).mono hsz
 · repeat' (first | with_reducible assumption | with_reducible exact Below.refl _ _ | with_reducible apply zc1 | with_reducible apply zdm | with_reducible apply zdl | (with_reducible apply zc0;with_reducible assumption) | (with_reducible apply zdn;(first | exact Nat.le_refl _ | (simp;done) | omega)))
end
end
end Go.Proofs.YthdbckbpldlkeaaGreat
