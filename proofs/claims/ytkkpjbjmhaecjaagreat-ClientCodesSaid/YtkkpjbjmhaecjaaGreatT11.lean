/- None -/
import Derived.Test.YtkkpjbjmhaecjaaGreatT08
import Derived.Test.YtkkpjbjmhaecjaaGreatT10
namespace Go.Proofs.YtkkpjbjmhaecjaaGreat
set_option linter.all false
set_option maxRecDepth 100000
set_option maxHeartbeats 4000000
section
section
open Go.RowKit
theorem zge (k:Int)(A:Option Addr)(n c:Nat)(b:List UInt8)(w:World)(hn:n=b.length)(h8:b.length=8)(hc:n≤c)(hs:Sl w A (b.map bv)) :
 Calls Tryz.prog 224 #[.int .i64 k,.slice A n c] w (GuessR k b w):=by
 have h:=zcg k;rcases (show (formI k=0∨formI k=1∨formI k=4∨formI k=5∨formI k=10)∨ (formI k=2∨formI k=3∨formI k=6)∨ (formI k=7∨formI k=8∨formI k=9∨formI k=11) by omega) with g | g | g
 · exact zf1 k A n c b w hn h8 hc hs _ rfl g
 · exact zf2 k A n c b w hn h8 hc hs _ rfl g
 · exact zf3 k A n c b w hn h8 hc hs _ rfl g
end
section
open Go.RowKit
theorem zgf (f:Int)(M:Ms)(h1:M.size≤4294967295)(h2:M.code≤4294967295)(h3:M.sum≤65535):(onlyM f M).size≤4294967295∧(onlyM f M).code≤4294967295∧(onlyM f M).sum≤65535:=by
 unfold onlyM;refine⟨?_,?_,?_⟩<;> (simp only[];split<;>omega)
theorem zgg (k:Int)(b:List UInt8):(guessM k b).size≤4294967295∧(guessM k b).code≤4294967295∧(guessM k b).sum≤65535:=by
 have h4:leN ((b.drop 4).take 4)≤ 4294967295:=by
  have h:=zan ((b.drop 4).take 4);have hp:256 ^ ((b.drop 4).take 4).length≤256 ^ 4:=Nat.pow_le_pow_right (by omega) (List.length_take_le _ _)
  have:(256:Nat) ^ 4=4294967296:=by decide
  omega
 have h2:leN ((b.drop 1).take 2)≤ 65535:=by
  have h:=zan ((b.drop 1).take 2);have hp:256 ^ ((b.drop 1).take 2).length≤256 ^ 2:=Nat.pow_le_pow_right (by omega) (List.length_take_le _ _)
  have:(256:Nat) ^ 2=65536:=by decide
  omega
 exact zgf _ (preM k b) h4 h4 h2
theorem zgh (M:Ms)(A:Option Addr)(n c:Nat)(w:World)(hn:n=M.data.length)(hs:Sl w A (M.data.map bv))(hu1:M.size≤4294967295)(hu2:M.code≤4294967295)(hu3:M.sum≤65535) :
 Calls Tryz.prog 145 #[.agg (msV M A n c)] w (BuildM M w):=by
 cases h:canB M
 · exact zgb M A n c w hn hs h
 · exact zgd M A n c w hn hs h hu1 hu2 hu3
def iv (k:Int):Value:= .int .i64 k
def ReadR (ks:List Int) (b:List UInt8) (w:World) (e:Ending) (w':World):Prop:=
 ∃A' n' c',e= .returned (.tuple #[.agg (msV (resM ks b) A' n' c'),.int .i64 (errI ks b)])∧ zdv w' w.heap.size A' n' c' (resM ks b).data∧Below w.heap.size w w'
theorem zgi (ks:List Int)(b:List UInt8)(w:World)(h:b.length≠8)(h8:errI ks b=if b.length < 8 then 2 else 3)(e:Ending)(w':World)(he:e= .returned (.tuple #[.agg (msV msZ none 0 0),.int .i64 (if b.length < 8 then 2 else 3)]))(hb:Below w.heap.size w w'):ReadR ks b w e w':=by
 have:resM ks b=msZ:=by unfold resM;rw[if_neg h]
 exact⟨none,0,0,by rw[this,h8,he],by rw[this];exact zdv.nil _ _,hb⟩
theorem zgj (ks:List Int)(A:Option Addr)(n c:Nat)(K:Value)(b:List UInt8)(w:World)(hn:n=b.length)(h8:b.length≠8) :
 Calls Tryz.prog 188 #[.slice A n c,K] w (ReadR ks b w):=by
 rcases Nat.lt_or_gt_of_ne h8 with h | h
 · have HE:Hid (∀e w',e= .returned (.tuple #[.agg (msV msZ none 0 0),.int .i64 2])→ Below w.heap.size w w'→ReadR ks b w e w'):=zak (fun e w' he hb=>zgi ks b w h8 (by unfold errI;rw[if_pos h,if_pos h]) e w' (by rw[if_pos h];exact he) hb);have hn8:n < 8:=by omega
   clear h h8 hn;go_enter Tryz.func188,Tryz.ntmps188
   go_wp2_with fail
   refine bodyPost_ret (v:= .tuple #[.agg (msV msZ none 0 0),.int .i64 2]) (by simp[results,Tryz.results188,go_sem,msV,msZ]) rfl (HE.out _ _ rfl kBl)
 · have HE:Hid (∀e w',e= .returned (.tuple #[.agg (msV msZ none 0 0),.int .i64 3])→ Below w.heap.size w w'→ReadR ks b w e w'):=zak (fun e w' he hb=>zgi ks b w h8 (by unfold errI;rw[if_neg (by omega),if_pos h,if_neg (by omega)]) e w' (by rw[if_neg (by omega)];exact he) hb);have hn8:8 < n:=by omega
   clear h h8 hn;go_enter Tryz.func188,Tryz.ntmps188
   go_wp2_with fail
   refine bodyPost_ret (v:= .tuple #[.agg (msV msZ none 0 0),.int .i64 3]) (by simp[results,Tryz.results188,go_sem,msV,msZ]) rfl (HE.out _ _ rfl kBl)
end
section
open Go.RowKit
theorem zgk (k:Int)(ks:List Int)(b:List UInt8)(h:hitB k b=false):ofM (k :: ks) b=ofM ks b:=by
 rw[ofM,h];rfl
theorem zgl (ks:List Int)(A:Option Addr)(c:Nat)(gk ck:Nat)(b:List UInt8)(w:World)(h8:b.length=8)(hc:8≤c)(hs:Sl w A (b.map bv))(hk:Sl w (some ⟨gk,0,none⟩) (ks.map iv))(hkl:ks.length≤100) :
 Calls Tryz.prog 188 #[.slice A 8 c,.slice (some ⟨gk,0,none⟩) ks.length ck] w (ReadR ks b w):=by
 have HE:Hid (∀m A' n' c' e w',ofM ks b=some m→e= .returned (.tuple #[.agg (msV m A' n' c'),.int .i64 0])→ zdv w' w.heap.size A' n' c' m.data→Below w.heap.size w w'→ReadR ks b w e w'):=zak (by
  intro m A' n' c' e w' hm he hO hb;have h1:resM ks b=m:=by unfold resM;rw[if_pos h8,hm];rfl
  have h2:errI ks b=0:=by unfold errI;rw[if_neg (by omega),if_neg (by omega),hm];rfl
  exact⟨A',n',c',by rw[h1,h2];exact he,by rw[h1];exact hO,hb⟩)
 have HNO:Hid (∀e w',ofM ks b=none→e= .returned (.tuple #[.agg (msV msZ none 0 0),.int .i64 4])→ Below w.heap.size w w'→ReadR ks b w e w'):=zak (by
  intro e w' hm he hb;have h1:resM ks b=msZ:=by unfold resM;rw[if_pos h8,hm];rfl
  have h2:errI ks b=4:=by unfold errI;rw[if_neg (by omega),if_neg (by omega),hm];rfl
  exact⟨none,0,0,by rw[h1,h2];exact he,by rw[h1];exact zdv.nil _ _,hb⟩)
 have H8:=zak h8;obtain⟨P,hP⟩:∃P,P=ReadR ks b w:=⟨_,rfl⟩;rw[←hP] at HE HNO ⊢;clear h8 hP;have hlk:ks.length≤4611686018427387904:=by omega
 go_enter Tryz.func188,Tryz.ntmps188
 go_wp2_with fail
 go_loopw [23] (fun i wr=> ∃j:Nat,j≤ks.length∧i= .int .i64 (j:Nat)∧ ofM ks b=ofM (ks.drop j) b∧Below w.heap.size w wr∧Blk wr w.heap.size 95 (msV msZ none 0 0)) (fun i _=>ks.length - (intOf i).toNat)
 case atStart=>
  exact⟨0,by omega,rfl,rfl,kBl,zdg w _ _⟩
 case round=>
  obtain⟨j,hj,rfl,hof,hbr,qr⟩:=hrel;have HOF:=zak hof;clear hof;by_cases hlt:j < ks.length
  case neg=>
   have HN:Hid (ofM ks b=none):=zak (by rw[HOF.out,List.drop_of_length_le (by omega)];rfl);simp only[msV,msZ] at qr;obtain⟨dn,dp,dq,dr,dt,du,dy,dA,dB,dC,cO,cP,cQ,cR⟩:=zde qr;have ex:=qr.frozen;go_wp2_with fail
   refine bodyPost_ret (v:= .tuple #[.agg (msV msZ none 0 0),.int .i64 4]) (by simp[results,Tryz.results188,go_sem,msV,msZ,dn,dp,dq,dr,dt,du,dy,dA,dB,dC,cO,cP,cQ,cR,ex]) rfl (HNO.out _ _ HN.out rfl ?_)
   all_goals exact kBl
  case pos=>
   obtain⟨k,hkj⟩:∃k,k=ks[j]:=⟨_,rfl⟩;obtain⟨gk',ok',e1,hck⟩:=hk.at_ (j:=j) (u:=iv k) (by rw[hkj];simp[hlt]);injection e1 with e1
   injection e1 with e1 e2
   subst e1 e2;have lgk:=zal hck;have hck':=(hbr.cell (p:=⟨gk,0+j,none⟩) lgk).trans hck;simp only[Nat.zero_add,iv] at hck';have HK:=zak hkj;have HD:Hid (ks.drop j=k :: ks.drop (j+1)):=zak (by rw[hkj];exact List.drop_eq_getElem_cons hlt);clear hkj hck;have hjn:((j:Nat):Int).toNat=j:=by omega
   have hjl:(j:Int) < (ks.length:Int):=by omega
   go_wp2_with fail
   refine (zge k A 8 c b _ H8.out.symm H8.out hc (hs.below hbr)).mono ?_;rintro e w2 ⟨A2,n2,c2,rfl,hO2,hb2⟩;have hbd:=zgg k b;obtain⟨N,hN⟩:∃N,N=guessM k b:=⟨_,rfl⟩;rw[←hN] at hO2 hbd ⊢;have HN:=zak hN;clear hN;obtain⟨kind,ix,sub,tg,la,cr,sz,size,code,data,sq,bl,em,sum⟩:=N;simp only[msV] at hO2 hbd ⊢;obtain⟨bd1,bd2,bd3⟩:=hbd;go_wp2_with fail
   refine (zgh ⟨kind,ix,sub,tg,la,cr,sz,size,code,data,sq,bl,em,sum⟩ A2 n2 c2 _ hO2.hn (hO2.sl.alloc _) bd1 bd2 bd3).mono ?_;rintro e w3 ⟨A3,n3,c3,rfl,hO3,hb3⟩;have hbw3:Below w.heap.size w w3:=zc4 hb3 (zc5 (zc4 hb2 hbr) _);have lr:=qr.lt;have qr3:=((qr.below hb2 lr).alloc (.cells #[.int .i64 kind,.int .i64 ix,.int .i64 sub,.bool tg,.bool la,.bool cr,.bool sz,.int .u32 (size:Nat),.int .u32 (code:Nat),.slice A2 n2 c2,.int .i64 sq,.int .i64 bl,.int .i64 em,.int .u16 (sum:Nat)] 95)).below hb3 (by have:=hb2.size;simp;omega);cases hcan:canB ⟨kind,ix,sub,tg,la,cr,sz,size,code,data,sq,bl,em,sum⟩
   case false=>
    have HH:Hid (hitB k b=false):=zak (by unfold hitB;rw[←HN.out,hcan,Bool.false_and]);rw[show (if false=true then (0:Int) else 1)=1 from rfl];clear hO3 hcan;go_wp2_with fail
    go_roundw
    case rel=>exact⟨j+1,by omega,by go_num,by rw[HOF.out,HD.out,zgk _ _ _ HH.out],hbw3,qr3⟩
    case measure=>simp[intOf];omega
   case true=>
    rw[hcan] at hO3;rw[show (if true=true then (0:Int) else 1)=0 from rfl];rw[if_pos rfl] at hO3;have t1:=zdx c3 hO3.hn hO3.sl;have t2:=zdx c H8.out.symm (hs.below hbw3);have HC:=zak hcan;clear hcan;by_cases heq:laidB ⟨kind,ix,sub,tg,la,cr,sz,size,code,data,sq,bl,em,sum⟩=b
    case neg=>
     have HH:Hid (hitB k b=false):=zak (by unfold hitB;rw[←HN.out,decide_eq_false heq,Bool.and_false]);obtain⟨s1,hs1⟩:∃s:ByteArray,s=⟨(laidB ⟨kind,ix,sub,tg,la,cr,sz,size,code,data,sq,bl,em,sum⟩).toArray⟩:=⟨_,rfl⟩;obtain⟨s2,hs2⟩:∃s:ByteArray,s=⟨b.toArray⟩:=⟨_,rfl⟩;have hx:(s1.toList == s2.toList)=false:=by
      rw[beq_eq_false_iff_ne,hs1,hs2];intro h;exact heq (by simpa using h)
     rw[←hs1] at t1;rw[←hs2] at t2;clear heq hs1 hs2 hO3;go_wp2_with fail
     go_roundw
     case rel=>exact⟨j+1,by omega,by go_num,by rw[HOF.out,HD.out,zgk _ _ _ HH.out],hbw3,qr3⟩
     case measure=>simp[intOf];omega
    case pos=>
     have HM:Hid (ofM ks b=some ⟨kind,ix,sub,tg,la,cr,sz,size,code,data,sq,bl,em,sum⟩):=zak (by rw[HOF.out,HD.out,ofM];rw[if_pos (by unfold hitB;rw[←HN.out,HC.out,decide_eq_true heq];rfl),←HN.out]);rw[heq] at t1;have qm3:=(Blk.new w2 95 #[.int .i64 kind,.int .i64 ix,.int .i64 sub,.bool tg,.bool la,.bool cr,.bool sz,.int .u32 (size:Nat),.int .u32 (code:Nat),.slice A2 n2 c2,.int .i64 sq,.int .i64 bl,.int .i64 em,.int .u16 (sum:Nat)]).below hb3 (by simp);have hO4:=(hO2.alloc (.cells #[.int .i64 kind,.int .i64 ix,.int .i64 sub,.bool tg,.bool la,.bool cr,.bool sz,.int .u32 (size:Nat),.int .u32 (code:Nat),.slice A2 n2 c2,.int .i64 sq,.int .i64 bl,.int .i64 em,.int .u16 (sum:Nat)] 95)).below hb3
     simp only[msV,msZ] at qr3;clear heq hO3 hO2;obtain⟨s2,hs2⟩:∃s:ByteArray,s=⟨b.toArray⟩:=⟨_,rfl⟩;rw[←hs2] at t1 t2;clear hs2;obtain⟨li,lj,lk,lm,ln,lp,ls,lu,lv,lw,kW,kX,kY,kZ⟩:=zde qm3;have mz:=qm3.frozen;obtain⟨jQ,jR,jS,jT,jU,jV,jW,jX,jY,jZ,ji,jj,jk,jl⟩:=zde qr3;have kw:=qr3.frozen;go_wp2_with fail
     refine bodyPost_ret (v:= .tuple #[.agg #[.int .i64 kind,.int .i64 ix,.int .i64 sub,.bool tg,.bool la,.bool cr,.bool sz,.int .u32 (size:Nat),.int .u32 (code:Nat),.slice A2 n2 c2,.int .i64 sq,.int .i64 bl,.int .i64 em,.int .u16 (sum:Nat)],.int .i64 0]) (by simp[results,Tryz.results188,go_sem,jQ,jR,jS,jT,jU,jV,jW,jX,jY,jZ,ji,jj,jk,jl,kw]) rfl (HE.out _ A2 n2 c2 _ _ HM.out rfl ?_ ?_)
     · exact (zfm hO4 lr _ _ _ _ _ _ _ _ _ _ _ _ _ _).mono hbr.size
     · all_goals exact kBl
end
section
open Go.RowKit
theorem zgm (ks:List Int)(A:Option Addr)(n c:Nat)(gk nk ck:Nat)(b:List UInt8)(w:World)(hn:n=b.length)(hc:n≤c)(hs:Sl w A (b.map bv))(hnk:nk=ks.length)(hk:Sl w (some ⟨gk,0,none⟩) (ks.map iv))(hkl:nk≤100) :
 Calls Tryz.prog 188 #[.slice A n c,.slice (some ⟨gk,0,none⟩) nk ck] w (ReadR ks b w):=by
 subst hnk;by_cases h8:b.length=8
 · obtain rfl:n=8:=by omega
   exact zgl ks A c gk ck b w h8 hc hs hk hkl
 · exact zgj ks A n c _ b w hn h8
theorem zgn {w:World}{g t:Nat}{ks:List Int}{cs:Array Value}(h:Blk w g t cs)(e:cs.toList=ks.map iv):Sl w (some ⟨g,0,none⟩) (ks.map iv):=by rw[←e];exact h.sl
theorem zgo (A:Option Addr)(n c:Nat)(b:List UInt8)(w:World)(hn:n=b.length)(hc:n≤c)(hs:Sl w A (b.map bv)) :
 Calls Tryz.prog 177 #[.slice A n c] w (ReadR reqK b w):=by
 have HE:Hid (∀A' n' c' w',zdv w' w.heap.size A' n' c' (resM reqK b).data→Below w.heap.size w w'→ReadR reqK b w (.returned (.tuple #[.agg (msV (resM reqK b) A' n' c'),.int .i64 (errI reqK b)])) w'):=zak (fun A' n' c' w' h1 h2=>⟨A',n',c',rfl,h1,h2⟩);obtain⟨P,hP⟩:∃P,P=ReadR reqK b w:=⟨_,rfl⟩;rw[←hP] at HE ⊢;clear hP;have HB:=zak (fun W gk nk ck h1 h2 h3=>zgm reqK A n c gk nk ck b W hn hc h1 (show nk=11 from h3) h2 (by omega));have q:=zdh w 95 3 #[.int .i64 0,.int .i64 0,.int .i64 0,.bool false,.bool false,.bool false,.bool false,.int .u32 0,.int .u32 0,.slice none 0 0,.int .i64 0,.int .i64 0,.int .i64 0,.int .u16 0] #[.int .i64 1,.int .i64 2,.int .i64 3,.int .i64 4,.int .i64 5,.int .i64 6,.int .i64 7,.int .i64 8,.int .i64 9,.int .i64 10,.int .i64 11]
 have hs1:=(hs.alloc (.cells #[.int .i64 0,.int .i64 0,.int .i64 0,.bool false,.bool false,.bool false,.bool false,.int .u32 0,.int .u32 0,.slice none 0 0,.int .i64 0,.int .i64 0,.int .i64 0,.int .u16 0] 95)).alloc (.cells #[.int .i64 1,.int .i64 2,.int .i64 3,.int .i64 4,.int .i64 5,.int .i64 6,.int .i64 7,.int .i64 8,.int .i64 9,.int .i64 10,.int .i64 11] 3);clear hn hc;go_enter Tryz.func177,Tryz.ntmps177
 go_wp2_with fail
 obtain⟨q0,q1⟩:=q;have lq:=q0.lt;have hbw:Below w.heap.size w ((w.alloc (.cells #[.int .i64 0,.int .i64 0,.int .i64 0,.bool false,.bool false,.bool false,.bool false,.int .u32 0,.int .u32 0,.slice none 0 0,.int .i64 0,.int .i64 0,.int .i64 0,.int .u16 0] 95)).alloc (.cells #[.int .i64 1,.int .i64 2,.int .i64 3,.int .i64 4,.int .i64 5,.int .i64 6,.int .i64 7,.int .i64 8,.int .i64 9,.int .i64 10,.int .i64 11] 3)):=kBl;have hsz:w.heap.size≤((w.alloc (.cells #[.int .i64 0,.int .i64 0,.int .i64 0,.bool false,.bool false,.bool false,.bool false,.int .u32 0,.int .u32 0,.slice none 0 0,.int .i64 0,.int .i64 0,.int .i64 0,.int .u16 0] 95)).alloc (.cells #[.int .i64 1,.int .i64 2,.int .i64 3,.int .i64 4,.int .i64 5,.int .i64 6,.int .i64 7,.int .i64 8,.int .i64 9,.int .i64 10,.int .i64 11] 3)).heap.size:=hbw.size
 generalize (w.alloc (.cells #[.int .i64 0,.int .i64 0,.int .i64 0,.bool false,.bool false,.bool false,.bool false,.int .u32 0,.int .u32 0,.slice none 0 0,.int .i64 0,.int .i64 0,.int .i64 0,.int .u16 0] 95)).alloc (.cells #[.int .i64 1,.int .i64 2,.int .i64 3,.int .i64 4,.int .i64 5,.int .i64 6,.int .i64 7,.int .i64 8,.int .i64 9,.int .i64 10,.int .i64 11] 3)=W at *
 refine (HB.out W _ 11 11 hs1 (zgn q1 rfl) rfl).mono ?_;rintro e w2 ⟨A2,n2,c2,rfl,hO2,hb2⟩;generalize resM reqK b=N at *
 generalize errI reqK b=er at *
 replace hbw:=zc4 hb2 hbw;have qr:=q0.below hb2 lq;obtain⟨kind,ix,sub,tg,la,cr,sz,size,code,data,sq,bl,em,sum⟩:=N;simp only[msV] at hO2 HE ⊢;obtain⟨dn,dp,dq,dr,dt,du,dy,dA,dB,dC,cO,cP,cQ,cR⟩:=zde qr;have ex:=qr.frozen;clear q0 q1 hs1;go_wp2_with fail
 refine bodyPost_ret (v:= .tuple #[.agg #[.int .i64 kind,.int .i64 ix,.int .i64 sub,.bool tg,.bool la,.bool cr,.bool sz,.int .u32 (size:Nat),.int .u32 (code:Nat),.slice A2 n2 c2,.int .i64 sq,.int .i64 bl,.int .i64 em,.int .u16 (sum:Nat)],.int .i64 er]) (by simp[results,Tryz.results177,go_sem,dn,dp,dq,dr,dt,du,dy,dA,dB,dC,cO,cP,cQ,cR,ex]) rfl (HE.out A2 n2 c2 _ ?_ ?_)
 · exact (zfm hO2 lq _ _ _ _ _ _ _ _ _ _ _ _ _ _).mono hsz
 · all_goals exact kBl
theorem zgp (A:Option Addr)(n c:Nat)(b:List UInt8)(w:World)(hn:n=b.length)(hc:n≤c)(hs:Sl w A (b.map bv)) :
 Calls Tryz.prog 137 #[.slice A n c] w (ReadR ansK b w):=by
 have HE:Hid (∀A' n' c' w',zdv w' w.heap.size A' n' c' (resM ansK b).data→Below w.heap.size w w'→ReadR ansK b w (.returned (.tuple #[.agg (msV (resM ansK b) A' n' c'),.int .i64 (errI ansK b)])) w'):=zak (fun A' n' c' w' h1 h2=>⟨A',n',c',rfl,h1,h2⟩);obtain⟨P,hP⟩:∃P,P=ReadR ansK b w:=⟨_,rfl⟩;rw[←hP] at HE ⊢;clear hP;have HB:=zak (fun W gk nk ck h1 h2 h3=>zgm ansK A n c gk nk ck b W hn hc h1 (show nk=10 from h3) h2 (by omega));have q:=zdh w 95 3 #[.int .i64 0,.int .i64 0,.int .i64 0,.bool false,.bool false,.bool false,.bool false,.int .u32 0,.int .u32 0,.slice none 0 0,.int .i64 0,.int .i64 0,.int .i64 0,.int .u16 0] #[.int .i64 1,.int .i64 12,.int .i64 13,.int .i64 14,.int .i64 15,.int .i64 16,.int .i64 17,.int .i64 18,.int .i64 19,.int .i64 20]
 have hs1:=(hs.alloc (.cells #[.int .i64 0,.int .i64 0,.int .i64 0,.bool false,.bool false,.bool false,.bool false,.int .u32 0,.int .u32 0,.slice none 0 0,.int .i64 0,.int .i64 0,.int .i64 0,.int .u16 0] 95)).alloc (.cells #[.int .i64 1,.int .i64 12,.int .i64 13,.int .i64 14,.int .i64 15,.int .i64 16,.int .i64 17,.int .i64 18,.int .i64 19,.int .i64 20] 3);clear hn hc;go_enter Tryz.func137,Tryz.ntmps137
 go_wp2_with fail
 obtain⟨q0,q1⟩:=q;have lq:=q0.lt;have hbw:Below w.heap.size w ((w.alloc (.cells #[.int .i64 0,.int .i64 0,.int .i64 0,.bool false,.bool false,.bool false,.bool false,.int .u32 0,.int .u32 0,.slice none 0 0,.int .i64 0,.int .i64 0,.int .i64 0,.int .u16 0] 95)).alloc (.cells #[.int .i64 1,.int .i64 12,.int .i64 13,.int .i64 14,.int .i64 15,.int .i64 16,.int .i64 17,.int .i64 18,.int .i64 19,.int .i64 20] 3)):=kBl;have hsz:w.heap.size≤((w.alloc (.cells #[.int .i64 0,.int .i64 0,.int .i64 0,.bool false,.bool false,.bool false,.bool false,.int .u32 0,.int .u32 0,.slice none 0 0,.int .i64 0,.int .i64 0,.int .i64 0,.int .u16 0] 95)).alloc (.cells #[.int .i64 1,.int .i64 12,.int .i64 13,.int .i64 14,.int .i64 15,.int .i64 16,.int .i64 17,.int .i64 18,.int .i64 19,.int .i64 20] 3)).heap.size:=hbw.size
 generalize (w.alloc (.cells #[.int .i64 0,.int .i64 0,.int .i64 0,.bool false,.bool false,.bool false,.bool false,.int .u32 0,.int .u32 0,.slice none 0 0,.int .i64 0,.int .i64 0,.int .i64 0,.int .u16 0] 95)).alloc (.cells #[.int .i64 1,.int .i64 12,.int .i64 13,.int .i64 14,.int .i64 15,.int .i64 16,.int .i64 17,.int .i64 18,.int .i64 19,.int .i64 20] 3)=W at *
 refine (HB.out W _ 10 10 hs1 (zgn q1 rfl) rfl).mono ?_;rintro e w2 ⟨A2,n2,c2,rfl,hO2,hb2⟩;generalize resM ansK b=N at *
 generalize errI ansK b=er at *
 replace hbw:=zc4 hb2 hbw;have qr:=q0.below hb2 lq;obtain⟨kind,ix,sub,tg,la,cr,sz,size,code,data,sq,bl,em,sum⟩:=N;simp only[msV] at hO2 HE ⊢;obtain⟨dn,dp,dq,dr,dt,du,dy,dA,dB,dC,cO,cP,cQ,cR⟩:=zde qr;have ex:=qr.frozen;clear q0 q1 hs1;go_wp2_with fail
 refine bodyPost_ret (v:= .tuple #[.agg #[.int .i64 kind,.int .i64 ix,.int .i64 sub,.bool tg,.bool la,.bool cr,.bool sz,.int .u32 (size:Nat),.int .u32 (code:Nat),.slice A2 n2 c2,.int .i64 sq,.int .i64 bl,.int .i64 em,.int .u16 (sum:Nat)],.int .i64 er]) (by simp[results,Tryz.results137,go_sem,dn,dp,dq,dr,dt,du,dy,dA,dB,dC,cO,cP,cQ,cR,ex]) rfl (HE.out A2 n2 c2 _ ?_ ?_)
 · exact (zfm hO2 lq _ _ _ _ _ _ _ _ _ _ _ _ _ _).mono hsz
 · all_goals exact kBl
theorem zgq (A:Option Addr)(n c:Nat)(b:List UInt8)(w:World)(hn:n=b.length)(hc:n≤c)(hs:Sl w A (b.map bv)) :
 Calls Tryz.prog 139 #[.slice A n c] w (ReadR segK b w):=by
 have HE:Hid (∀A' n' c' w',zdv w' w.heap.size A' n' c' (resM segK b).data→Below w.heap.size w w'→ReadR segK b w (.returned (.tuple #[.agg (msV (resM segK b) A' n' c'),.int .i64 (errI segK b)])) w'):=zak (fun A' n' c' w' h1 h2=>⟨A',n',c',rfl,h1,h2⟩);obtain⟨P,hP⟩:∃P,P=ReadR segK b w:=⟨_,rfl⟩;rw[←hP] at HE ⊢;clear hP;have HB:=zak (fun W gk nk ck h1 h2 h3=>zgm segK A n c gk nk ck b W hn hc h1 (show nk=1 from h3) h2 (by omega));have q:=zdh w 95 3 #[.int .i64 0,.int .i64 0,.int .i64 0,.bool false,.bool false,.bool false,.bool false,.int .u32 0,.int .u32 0,.slice none 0 0,.int .i64 0,.int .i64 0,.int .i64 0,.int .u16 0] #[.int .i64 21]
 have hs1:=(hs.alloc (.cells #[.int .i64 0,.int .i64 0,.int .i64 0,.bool false,.bool false,.bool false,.bool false,.int .u32 0,.int .u32 0,.slice none 0 0,.int .i64 0,.int .i64 0,.int .i64 0,.int .u16 0] 95)).alloc (.cells #[.int .i64 21] 3);clear hn hc;go_enter Tryz.func139,Tryz.ntmps139
 go_wp2_with fail
 obtain⟨q0,q1⟩:=q;have lq:=q0.lt;have hbw:Below w.heap.size w ((w.alloc (.cells #[.int .i64 0,.int .i64 0,.int .i64 0,.bool false,.bool false,.bool false,.bool false,.int .u32 0,.int .u32 0,.slice none 0 0,.int .i64 0,.int .i64 0,.int .i64 0,.int .u16 0] 95)).alloc (.cells #[.int .i64 21] 3)):=kBl;have hsz:w.heap.size≤((w.alloc (.cells #[.int .i64 0,.int .i64 0,.int .i64 0,.bool false,.bool false,.bool false,.bool false,.int .u32 0,.int .u32 0,.slice none 0 0,.int .i64 0,.int .i64 0,.int .i64 0,.int .u16 0] 95)).alloc (.cells #[.int .i64 21] 3)).heap.size:=hbw.size;generalize (w.alloc (.cells #[.int .i64 0,.int .i64 0,.int .i64 0,.bool false,.bool false,.bool false,.bool false,.int .u32 0,.int .u32 0,.slice none 0 0,.int .i64 0,.int .i64 0,.int .i64 0,.int .u16 0] 95)).alloc (.cells #[.int .i64 21] 3)=W at *
 refine (HB.out W _ 1 1 hs1 (zgn q1 rfl) rfl).mono ?_;rintro e w2 ⟨A2,n2,c2,rfl,hO2,hb2⟩;generalize resM segK b=N at *
 generalize errI segK b=er at *
 replace hbw:=zc4 hb2 hbw;have qr:=q0.below hb2 lq;obtain⟨kind,ix,sub,tg,la,cr,sz,size,code,data,sq,bl,em,sum⟩:=N;simp only[msV] at hO2 HE ⊢;obtain⟨dn,dp,dq,dr,dt,du,dy,dA,dB,dC,cO,cP,cQ,cR⟩:=zde qr;have ex:=qr.frozen;clear q0 q1 hs1;go_wp2_with fail
 refine bodyPost_ret (v:= .tuple #[.agg #[.int .i64 kind,.int .i64 ix,.int .i64 sub,.bool tg,.bool la,.bool cr,.bool sz,.int .u32 (size:Nat),.int .u32 (code:Nat),.slice A2 n2 c2,.int .i64 sq,.int .i64 bl,.int .i64 em,.int .u16 (sum:Nat)],.int .i64 er]) (by simp[results,Tryz.results139,go_sem,dn,dp,dq,dr,dt,du,dy,dA,dB,dC,cO,cP,cQ,cR,ex]) rfl (HE.out A2 n2 c2 _ ?_ ?_)
 · exact (zfm hO2 lq _ _ _ _ _ _ _ _ _ _ _ _ _ _).mono hsz
 · all_goals exact kBl
end
end
section
open Go.RowKit
theorem zgr {P:Program}{w:World}(dT sT ty elem:TypeId)(hu:P.underlying dT=some (.slice elem))(hsz:(P.info? elem).map (·.size)=some 1)
 (B e:Nat) (A:Option Addr) (n c:Nat) (xs:List Value) (hown:Own w B e 1 A n c xs)
 (A2:Option Addr) (m c2:Nat) (ys:List Value) (hl:ys.length=m) (hr:Sl w A2 ys) (h1:∀u ∈ ys,u.oneCell'=true) :
 ∃w',(Builtin.copy_ #[dT,sT] ty #[.slice A n c,.slice A2 m c2]).run P w= .ok (goInt (Nat.min m n)) w'∧Own w' B e 1 A n c (ys.take n ++ xs.drop m)∧ w.grownBy w' (Value.ownBlock (.slice A n c))∧ Below B w w':=by
 have hxl:xs.length=n:=by simpa using hown.len
 by_cases h0:Nat.min m n=0
 · refine⟨w,by rw[h0];exact run_copy_none (P:=P) w dT sT ty elem A A2 n c m c2 hu hsz h0,?_,World.grownBy.refl _ _,Below.refl _ _⟩;have hm:m=0∨n=0:=by
    rcases Nat.le_total m n with h' | h'
    · left;rw[←h0];exact (Nat.min_eq_left h').symm
    · right;rw[←h0];exact (Nat.min_eq_right h').symm
   rcases hm with rfl | rfl
   · rw[List.eq_nil_of_length_eq_zero hl];simpa using hown
   · rw[List.eq_nil_of_length_eq_zero hxl] at hown ⊢;simpa using hown
 · have hn0:0 < n:=by
    rcases Nat.eq_zero_or_pos n with h' | h'
    · subst h';simp at h0
    · exact h'
   have hm0:0 < m:=by
    rcases Nat.eq_zero_or_pos m with h' | h'
    · subst h';simp at h0
    · exact h'
   obtain⟨ad,rfl,_⟩:=hr 0 _ (List.getElem?_eq_getElem (by omega));rcases hown.2 with ⟨hv,hz⟩ | ⟨g,cap,cur,hv,hb,hg,hnc,hcm,hcs,htake⟩
   · omega
   · injection hv with hA _ hcc
     subst hA;subst hcc;have hmn:Nat.min m n≤n:=Nat.min_le_right _ _;have hcl:(ys.take n).length=Nat.min m n:=by rw[List.length_take,hl];exact Nat.min_comm _ _
     have hrun:=run_copy_row (P:=P) w dT sT ty elem g 0 n c ad m c2 cur e (ys.take n) hu hsz hg hcl (by
      intro j v hv;rw[List.getElem?_take] at hv;split at hv
      · obtain⟨ad',h',hc⟩:=hr j v hv;injection h' with h'
        subst h';exact hc
      · simp at hv) (by rw[hcl];omega) (by intro v hv;exact h1 v (List.mem_of_mem_take hv))
     rw[hcl] at hrun;refine⟨_,hrun,?_⟩;have hnl:(ys.take n ++ xs.drop m).length=n:=by
      rw[List.length_append,hcl,List.length_drop,hxl];show min m n+(n - m)=n;omega
     refine⟨⟨by simpa using hnl,.inr ⟨g,c,_,rfl,hb,setRow_heap w g _ _ e _ hg,hnc,hcm,?_,?_⟩⟩,⟨rfl,rfl,rfl,by simp[World.setRow],fun k hk hne=>setRow_other w g k _ (by simpa [Value.ownBlock] using hne)⟩,below_setRow (Below.refl _ _) hb _⟩
     · simp only[List.size_toArray,List.take_zero,List.nil_append,List.length_append,List.length_drop,Array.length_toList,hcl];omega
     · simp only[List.take_zero,List.nil_append,Nat.zero_add,Nat.mul_one];rw[List.take_append,hcl];have e1:(ys.take n).take n=ys.take n:=by rw[List.take_take,Nat.min_self]
       rw[e1]
       congr 1
       rw[List.take_drop];have e2:Nat.min m n+(n - Nat.min m n)=n:=by omega
       rw[e2];rw[Nat.mul_one] at htake;rw[htake];rcases Nat.le_total m n with h' | h'
       · rw[show Nat.min m n=m from Nat.min_eq_left h']
       · rw[show Nat.min m n=n from Nat.min_eq_right h',List.drop_eq_nil_of_le (by omega),List.drop_eq_nil_of_le (by omega)]
theorem zgs {o:Oper}{a:Act}{K:Act→World→Prop}{Q:Exit→Act→World→Prop}{w:World}(d s:Operand)
 (ho:o.op= .call { callee:= .builtin .copy,args:=#[d,s],argTypes:=#[27,27] })
 (B:Nat) (A:Option Addr) (n c:Nat) {l:List UInt8} (hd:a.eval d= .slice A n c) (hown:zdv w B A n c l)
 (A2:Option Addr) (m c2:Nat) (l2:List UInt8) (hs:a.eval s= .slice A2 m c2) (hm:m=l2.length) (hr:Sl w A2 (l2.map bv))
 (l3:List UInt8) (hl3:l2.take n ++ l.drop m=l3)
 (h:∀w',zdv w' B A n c l3→w.grownBy w' (Value.ownBlock (.slice A n c))→ Below B w w'→K (a.put o.dst (goInt (Nat.min m n))) w'):Oper.wp Tryz.prog o a w K Q:=by
 obtain⟨w',hrun,h1,h2,h3⟩:=zgr (P:=Tryz.prog) (w:=w) 27 27 o.type 5 Tryz.underlying27 zdu B _ A n c _ hown.own A2 m c2 (l2.map bv) (by simp[hm]) hr (zc1 _);unfold Oper.wp;simp[execOp,ho,resolve,invoke,builtin,hd,hs,hrun,Result.andThen];refine h w' ⟨?_,?_⟩ h2 h3
 · have:=hown.hn
   rw[←hl3]
   simp
   omega
 · rw[←hl3]
   simpa using h1
def msF (M:Ms) (d:Option Addr×Nat):List Value:=[.int .i64 M.kind,.int .i64 M.ix,.int .i64 M.sub,.bool M.tg,.bool M.la,.bool M.cr,.bool M.sz,.int .u32 (M.size:Nat),.int .u32 (M.code:Nat),.slice d.1 M.data.length d.2,.int .i64 M.sq,.int .i64 M.bl,.int .i64 M.em,.int .u16 (M.sum:Nat)]
theorem zgt (M:Ms)(d:Option Addr×Nat):(msF M d).length=14:=rfl
theorem zgu (M:Ms)(d:Option Addr×Nat):∀u ∈ msF M d,u.oneCell'=true:=by
 intro u hu;simp[msF] at hu;rcases hu with rfl | rfl | rfl | rfl | rfl | rfl | rfl | rfl | rfl | rfl | rfl | rfl | rfl | rfl<;>rfl
theorem zgv:(Tryz.prog.info? 95).map (fun i=>(i.zero,i.size,i.bytes))=some (some (.agg #[.int .i64 0,.int .i64 0,.int .i64 0,.bool false,.bool false,.bool false,.bool false,.int .u32 0,.int .u32 0,.slice none 0 0,.int .i64 0,.int .i64 0,.int .i64 0,.int .u16 0]),14,96):=by kernel_rfl
abbrev OwnM (w:World) (F:Nat→Prop) (A:Option Addr) (n c:Nat) (L:List Ms) (ds:List (Option Addr×Nat)):Prop:=zd8 msF 14 95 Ms.data w F A n c L ds
def zgw (ds:List (Option Addr×Nat)):Prop:=ds.Pairwise (fun a b=> ∀g,a.1=some (⟨g,0,none⟩:Addr)→ b.1≠some ⟨g,0,none⟩)
theorem zgw.snoc {ds:List (Option Addr×Nat)}(h:zgw ds){d:Option Addr×Nat}{N:Nat}(h1:∀e ∈ ds,∀g,e.1=some (⟨g,0,none⟩:Addr)→ g < N)(h2:FIn (fun g=>N≤g) d.1):zgw (ds ++ [d]):=by
 unfold zgw;rw[List.pairwise_append];refine⟨h,List.pairwise_singleton _ _,?_⟩;intro a ha b hb g hg he;simp at hb;subst hb
 have:=h1 a ha g hg
 have:=h2 g he
 omega
theorem zgx {α:Type}{f: α→Option Addr×Nat→List Value}{k:Nat}{e:TypeId}{dat: α→List UInt8}{w:World}{F:Nat→Prop}{A:Option Addr}{n c:Nat}{L:List α}{ds:List (Option Addr×Nat)}(h:zd8 f k e dat w F A n c L ds):∀d ∈ ds,∀g,d.1=some (⟨g,0,none⟩:Addr)→ g < w.heap.size:=by
 intro d hd g hg;obtain⟨j,hj,rfl⟩:=List.getElem_of_mem hd;obtain⟨v,hv⟩:∃v,L[j]? =some v:=⟨L[j]'(by rw[←h.hd];exact hj),List.getElem?_eq_getElem _⟩;exact ((h.data j v _ hv (List.getElem?_eq_getElem hj)).1.own.fin g hg).2
def zgy (w:World) (F:Nat→Prop) (A:Option Addr) (n c:Nat) (L:List Ms) (ds:List (Option Addr×Nat)):Prop:=OwnM w F A n c L ds∧zgw ds
theorem zgy.nil (w:World)(F:Nat→Prop):zgy w F none 0 0 [] []:=⟨zd8.nil _ _,List.Pairwise.nil⟩
theorem zgy.below {w w':World}{F:Nat→Prop}{A:Option Addr}{n c:Nat}{L:List Ms}{ds:List (Option Addr×Nat)}(h:zgy w F A n c L ds)(hb:Below w.heap.size w w'):zgy w' F A n c L ds:=⟨h.1.below hb,h.2⟩
theorem zgy.keep {w w':World}{F:Nat→Prop}{A:Option Addr}{n c:Nat}{L:List Ms}{ds:List (Option Addr×Nat)}(h:zgy w F A n c L ds)(hk:∀g,F g→g < w.heap.size→w'.heap[g]? =w.heap[g]?):zgy w' F A n c L ds:=⟨h.1.keep hk,h.2⟩
theorem zgy.mono {w:World}{F G:Nat→Prop}{A:Option Addr}{n c:Nat}{L:List Ms}{ds:List (Option Addr×Nat)}(h:zgy w F A n c L ds)(hG:∀g,g < w.heap.size→F g→G g):zgy w G A n c L ds:=⟨h.1.mono hG,h.2⟩
end
end Go.Proofs.YtkkpjbjmhaecjaaGreat
