/- None -/
import Derived.Test.YtkkpjbjmhaecjaaGreatU06
import Derived.Laws.Closers25b
namespace Go.Proofs.YtkkpjbjmhaecjaaGreat
set_option linter.all false
set_option maxRecDepth 100000
set_option maxHeartbeats 2000000
section
section
open Go.RowKit
theorem zet (n:Nat)(h:n < 18446744073709551616):wrap64 (n:Int)=sgnN 8 n:=by
 unfold wrap64;simp[sgnN];split<;>omega
theorem zeu (n:Nat)(h:n < 18446744073709551616):wrap64 (IntKind.u64.wrap (n:Int))=sgnN 8 n:=by
 unfold wrap64;rw[IntKind.wrap_u64];simp[sgnN];split<;>omega
theorem zev (n:Nat)(w:World)(h:n < 256):Calls Tryz.prog 243 #[.int .u64 n,.int .i64 8] w fun e w'=>e= .returned (.int .i64 (sgnN 1 n))∧ w=w':=by
 have H:=zak h;clear h;go_enter Tryz.func243,Tryz.ntmps243
 go_wp2_with fail
 go_ret
 exact⟨zau (by exact zce n H.out),rfl⟩
theorem zew (n:Nat)(w:World)(h:n < 65536):Calls Tryz.prog 243 #[.int .u64 n,.int .i64 16] w fun e w'=>e= .returned (.int .i64 (sgnN 2 n))∧ w=w':=by
 have H:=zak h;clear h;go_enter Tryz.func243,Tryz.ntmps243
 go_wp2_with fail
 go_ret
 exact⟨zau (by exact zcf n H.out),rfl⟩
theorem zex (n:Nat)(w:World)(h:n < 4294967296):Calls Tryz.prog 243 #[.int .u64 n,.int .i64 32] w fun e w'=>e= .returned (.int .i64 (sgnN 4 n))∧ w=w':=by
 have H:=zak h;clear h;go_enter Tryz.func243,Tryz.ntmps243
 go_wp2_with fail
 go_ret
 exact⟨zau (by exact zcg n H.out),rfl⟩
theorem zey (n:Nat)(w:World)(h:U64 n):Calls Tryz.prog 243 #[.int .u64 n,.int .i64 64] w fun e w'=>e= .returned (.int .i64 (sgnN 8 n))∧ w=w':=by
 have H:=zak h;clear h;go_enter Tryz.func243,Tryz.ntmps243
 go_wp2_with fail
 go_ret
 refine⟨zau (zeu n H.out),rfl⟩
theorem zez (wd:Int)(n:Nat)(w:World)(hw:Wd wd)(h:n < 256 ^ wd.toNat):Calls Tryz.prog 243 #[.int .u64 n,.int .i64 (8 * wd)] w fun e w'=>e= .returned (.int .i64 (sgnN wd n))∧ w=w':=by
 rcases hw with rfl | rfl | rfl | rfl
 · exact zev n w (by simpa using h)
 · exact zew n w (by simpa using h)
 · exact zex n w (by simpa using h)
 · exact zey n w (by simpa [U64] using h)
theorem ze0 (A:Option Addr)(n c:Nat)(l:List UInt8)(wd:Int)(w:World)(hw:Wd wd)(hn:n=l.length)(hwn:wd=(n:Int))(hc:n≤c)(hs:Sl w A (l.map bv)) :
 Calls Tryz.prog 230 #[.slice A n c,.int .i64 0,.int .i64 wd] w fun e w'=>e= .returned (.tuple #[.int .i64 (sgnN wd (leN l)),.int .i64 0])∧ w=w':=by
 have h8:1≤wd∧wd≤8:=by rcases hw with rfl | rfl | rfl | rfl<;>omega
 obtain⟨h1,h8⟩:=h8;have HW:=zak hw;have hlt:=zan l;rw[←hn,show n=wd.toNat by omega] at hlt;have HG:=zak (zeo A n c l 0 wd w hn hc (by omega) (by omega) (by omega) h1 h8 hs);have HE:=zak (show (l.drop (Int.toNat 0)).take wd.toNat=l by rw[List.take_of_length_le (by simp;omega)];rfl);have HL:=zak hlt;clear hw hlt hn hwn hs;go_enter Tryz.func230,Tryz.ntmps230
 go_wp2_with fail
 refine HG.out.mono ?_;rintro e w1 ⟨rfl,rfl⟩;rw[HE.out];go_wp2_with fail
 refine (zez wd (leN l) _ HW.out HL.out).mono ?_;rintro e w1 ⟨rfl,rfl⟩;go_wp2_with fail
 go_ret2
 exact⟨rfl,rfl⟩
def hfN (wd:Int):Int:=if wd=1 then 128 else if wd=2 then 32768 else 2147483648
theorem ze1 (k:Nat)(h:k≤61):(2:Int) ^ k≤2305843009213693952:=by
 have h1:(2:Nat) ^ k≤2305843009213693952:=Nat.le_trans (Nat.pow_le_pow_right (by omega) h) (by decide);have h2:(2:Int) ^ k=((2 ^ k:Nat):Int):=by push_cast;rfl
 rw[h2];omega
theorem rhalf (wd:Int)(w:World)(h1:1≤wd)(h4:wd≤4):Calls Tryz.prog 232 #[.int .i64 wd] w fun e w'=>e= .returned (.int .i64 (2 ^ (8 * wd - 1).toNat))∧ w=w':=by
 go_enter Tryz.func232,Tryz.ntmps232
 go_wp2_with fail
 go_loop [3,4] (fun n i=> ∃k:Nat,k≤8 * wd - 1∧i= .int .i64 k∧n= .int .i64 (2 ^ k)) (fun _ i=>(8 * wd - 1).toNat - (intOf i).toNat)
 case atStart=>exact⟨0,by omega,rfl,rfl⟩
 case round=>
  obtain⟨k,hk,rfl,rfl⟩:=hrel;have hp:=ze1 k (by omega);have hq:(0:Int) < 2 ^ k:=Int.pow_pos (by omega);have HP:Hid ((2:Int) * 2 ^ k=2 ^ (k+1)):=zak (by rw[Int.pow_succ,Int.mul_comm]);have HK:Hid ((2:Int) ^ k=2 ^ k):=zak rfl;obtain⟨p,hp'⟩:∃p,p=(2:Int) ^ k:=⟨_,rfl⟩;rw[←hp'] at hp hq HP ⊢;replace HK:=zak hp';clear hp';by_cases hlt:(k:Int) < 8 * wd - 1
  · go_wp2_with fail
    go_round
    case rel=>exact⟨k+1,by omega,by go_num,by rw[HP.out]⟩
    case measure=>simp[intOf];omega
  · go_wp2_with fail
    go_ret
    have:k=(8 * wd - 1).toNat:=by omega
    subst this;refine⟨zau ?_,rfl⟩;rw[HK.out]
    congr 1
    omega
theorem ze2 (wd:Int)(h:wd=1∨wd=2∨wd=4):(2:Int) ^ (8 * wd - 1).toNat=hfN wd∧1≤hfN wd∧hfN wd≤2147483648:=by
 rcases h with rfl | rfl | rfl<;>exact⟨rfl,by decide,by decide⟩
theorem ze3 {wd:Int}(h:wd=1∨wd=2∨wd=4)(n:Nat):sgnN wd n=if (n:Int) < hfN wd then (n:Int) else (n:Int) - hfN wd - hfN wd:=by
 rcases h with rfl | rfl | rfl<;>simp[sgnN,hfN]<;> (repeat' split)<;> omega
theorem ze4 (A:Option Addr)(n c:Nat)(l:List UInt8)(wd:Int)(w:World)(hw:Wd wd)(hn:n=l.length)(hwn:wd=(n:Int))(hc:n≤c)(hs:Sl w A (l.map bv)) :
 Calls Tryz.prog 207 #[.slice A n c,.int .i64 0,.int .i64 wd] w fun e w'=>e= .returned (.tuple #[.int .i64 (sgnN wd (leN l)),.int .i64 0])∧ w=w':=by
 have h8:1≤wd∧wd≤8:=by rcases hw with rfl | rfl | rfl | rfl<;>omega
 obtain⟨h1,h8⟩:=h8;have hlt:=zan l;rw[←hn,show n=wd.toNat by omega] at hlt;have HG:=zak (zer A n c l 0 wd w hn hc (by omega) (by omega) (by omega) h1 h8 hs);have HE:=zak (show (l.drop (Int.toNat 0)).take wd.toNat=l by rw[List.take_of_length_le (by simp;omega)];rfl);have HL:=zak hlt;rcases hw with hw | hw | hw | hw
 case inr.inr.inr=>
  subst hw;have HU:=zak (zet (leN l) (by have:=HL.out;simpa using this));clear hlt hn hwn hs;go_enter Tryz.func207,Tryz.ntmps207
  go_wp2_with fail
  refine HG.out.mono ?_;rintro e w1 ⟨rfl,rfl⟩;rw[HE.out];go_wp2_with fail
  go_ret2
  exact⟨by rw[←HU.out];rfl,rfl⟩
 all_goals
  have h124:wd=1∨wd=2∨wd=4:=by omega
  have h4:wd≤4:=by omega
  have hne:(wd == 8)=false:=by simp;omega
  obtain⟨hf0,hf1,hf2⟩:=ze2 wd h124;have HH:=zak (fun W=>rhalf wd W h1 h4);rw[hf0] at HH;have HS:=zak (ze3 h124 (leN l));have hx:leN l < 4294967296:=by
   have:=HL.out
   have h3:256 ^ wd.toNat≤256 ^ 4:=Nat.pow_le_pow_right (by omega) (by omega);have h4:(256:Nat) ^ 4=4294967296:=by decide
   omega
  clear hlt hn hwn hs hf0 h124 hw;generalize hfN wd=hv at *
  have HX:Hid (leN l=leN l):=zak rfl;obtain⟨x,hxx⟩:∃x,leN l=x:=⟨_,rfl⟩;rw[hxx] at HL HS hx ⊢;replace HX:=zak hxx;clear hxx;have hwr:IntKind.u64.wrap hv=hv:=by rw[IntKind.wrap_u64];omega
  go_enter Tryz.func207,Tryz.ntmps207
  go_wp2_with fail
  refine HG.out.mono ?_;rintro e w1 ⟨rfl,rfl⟩;rw[HE.out,HX.out];go_wp2_with fail
  refine (HH.out _).mono ?_;rintro e w1 ⟨rfl,rfl⟩;by_cases hcmp:(x:Int) < hv
  · go_wp2_with fail
    go_ret2
    exact⟨by rw[HS.out,if_pos hcmp];rfl,rfl⟩
  · go_wp2_with fail
    refine (HH.out _).mono ?_;rintro e w1 ⟨rfl,rfl⟩;go_wp2_with fail
    refine (HH.out _).mono ?_;rintro e w1 ⟨rfl,rfl⟩;go_wp2_with fail
    go_ret2
    exact⟨by rw[HS.out,if_neg (by omega)];rfl,rfl⟩
end
section
open Go.RowKit
def SameV (v:Value) (w:World) (e:Ending) (w':World):Prop:=e= .returned v∧w=w'
theorem ze5 (t:Int)(w:World):Calls Tryz.prog 106 #[.int .i64 t] w (SameV (.bool (tyKnown t)) w):=by
 have hnm:Calls Tryz.prog 164 #[.int .i64 t] w fun e w'=> ∃s:ByteArray,(e= .returned (.string s)∧ w=w')∧ Hid (if tyKnown t=true then ¬s.toList= [] else s=⟨#[]⟩):=by
  go_enter Tryz.func164,Tryz.ntmps164
  go_wp2_with fail
  all_goals (go_ret;exact⟨_,⟨rfl,rfl⟩,zak (by simp_all [tyKnown])⟩)
 cases hk:tyKnown t
 · have HN:=zak hnm;rw[hk] at HN;clear hk hnm;go_enter Tryz.func106,Tryz.ntmps106
   go_wp2_with fail
   refine HN.out.mono ?_;rintro e w1 ⟨s,⟨rfl,rfl⟩,HS⟩;obtain rfl:=HS.out;go_wp2_with fail
   go_ret
   exact⟨rfl,rfl⟩
 · have HN:=zak hnm;rw[hk] at HN;clear hk hnm;go_enter Tryz.func106,Tryz.ntmps106
   go_wp2_with fail
   refine HN.out.mono ?_;rintro e w1 ⟨s,⟨rfl,rfl⟩,HS⟩;have hs: ¬s.toList= []:=by have:=HS.out;simpa using this
   have hs2:s.toList.isEmpty=false:=by simpa using hs
   go_wp2_with fail
   go_ret
   exact⟨rfl,rfl⟩
theorem ze6 (t:Int)(w:World):Calls Tryz.prog 206 #[.int .i64 t] w (SameV (.int .i64 (tySize t)) w):=by
 go_enter Tryz.func206,Tryz.ntmps206
 go_wp2_with fail
 all_goals (go_ret;exact⟨zau (by simp_all [tySize]),rfl⟩)
theorem ze7 (t:Int)(w:World):Calls Tryz.prog 163 #[.int .i64 t] w (SameV (.bool (tySigned t)) w):=by
 go_enter Tryz.func163,Tryz.ntmps163
 go_wp2_with fail
 all_goals (go_ret;exact⟨zav (by rw[Bool.eq_iff_iff];simp_all [tySigned];try omega),rfl⟩)
theorem ze8 (t:Int)(w:World):Calls Tryz.prog 162 #[.int .i64 t] w (SameV (.int .i64 (tyBits t)) w):=by
 have hz:0≤tySize t∧tySize t≤8:=by unfold tySize;(repeat' split)<;> omega
 obtain⟨hz1,hz2⟩:=hz;by_cases h:t=1
 · subst h;go_enter Tryz.func162,Tryz.ntmps162
   go_wp2_with fail
   go_ret
   exact⟨rfl,rfl⟩
 · have HB:Hid (tyBits t=8 * tySize t):=zak (by simp[tyBits,h]);have h':(t == 1)=false:=by simpa using h
   clear h;go_enter Tryz.func162,Tryz.ntmps162
   go_wp2_with fail
   refine (ze6 t _).mono ?_;rintro e w1 ⟨rfl,rfl⟩;go_wp2_with fail
   go_ret
   exact⟨zau HB.out.symm,rfl⟩
theorem ze9 (t:Int)(h:tyBits t≠0):tyHigh t=2 ^ ((if tySigned t=true then tyBits t - 1 else tyBits t).toNat) - 1∧tyLow t=if tySigned t=true then -tyHigh t - 1 else 0:=by
 rcases zb9 t h with rfl | rfl | rfl | rfl | rfl | rfl | rfl | rfl<;>exact⟨by decide,rfl⟩
theorem zfa (k:Nat)(h:k≤63):(2:Int) ^ k≤9223372036854775808:=by
 have h1:(2:Nat) ^ k≤9223372036854775808:=Nat.le_trans (Nat.pow_le_pow_right (by omega) h) (by decide);have h2:(2:Int) ^ k=((2 ^ k:Nat):Int):=by push_cast;rfl
 rw[h2];omega
theorem zfb (p:Int)(h0:0≤p)(h:2 * p+2≤9223372036854775808):wrap64 (wrap64 (2 * p)+1)=2 * p+1:=by unfold wrap64;omega
def hiN (k:Nat):Int:=2 ^ k - 1
theorem zfc (k:Nat)(h:k+1≤63):wrap64 (wrap64 (2 * hiN k)+1)=hiN (k+1):=by
 have h1:=zfa (k+1) h;have h2:(0:Int) < 2 ^ k:=Int.pow_pos (by omega);have h3:(2:Int) ^ (k+1)=2 * 2 ^ k:=by rw[Int.pow_succ,Int.mul_comm]
 rw[zfb _ (by unfold hiN;omega) (by unfold hiN;omega)];unfold hiN;omega
def RLimR (t:Int) (w:World) (e:Ending) (w':World):Prop:=e= .returned (.tuple #[.int .i64 (tyLow t),.int .i64 (tyHigh t),.bool (tyNum t)])∧ w=w'
theorem zfd {a b a' b':Int}{c:Bool}(h1:a=a')(h2:b=b'):Ending.returned (.tuple #[.int .i64 a,.int .i64 b,.bool c])= .returned (.tuple #[.int .i64 a',.int .i64 b',.bool c]):=by rw[h1,h2]
theorem zfe {t:Int}(h:tyBits t=0):tyLow t=0∧tyHigh t=0∧tyNum t=false:=by
 have:tyNum t=false:=by simp[tyNum,h]
 rcases zb7 t with rfl | rfl | rfl | rfl | rfl | rfl | rfl | rfl | rfl | rfl | rfl | hn
 iterate 7 exact absurd h (by decide)
 iterate 3 exact⟨rfl,rfl,this⟩
 · exact absurd h (by decide)
 · exact⟨(zca hn).2.2.2.2.2,(zca hn).2.2.2.2.1,this⟩
theorem zff (t:Int)(w:World):Calls Tryz.prog 104 #[.int .i64 t] w (RLimR t w):=by
 by_cases h:tyBits t=0
 · have HL:=zak (zfe h);have h':(tyBits t == 0)=true:=by simpa using h
   clear h;go_enter Tryz.func104,Tryz.ntmps104
   go_wp2_with fail
   refine (ze8 t _).mono ?_;rintro e w1 ⟨rfl,rfl⟩;go_wp2_with fail
   go_ret3
   obtain⟨h1,h2,h3⟩:=HL.out;exact⟨by rw[h1,h2,h3];rfl,rfl⟩
 · obtain⟨hh,hl⟩:=ze9 t h;have HN:Hid (tyNum t=true):=zak (by simp[tyNum,h]);have hb:1≤tyBits t∧tyBits t≤64∧(tySigned t=false→tyBits t≤32):=by
    rcases zb9 t h with rfl | rfl | rfl | rfl | rfl | rfl | rfl | rfl<;>exact⟨by decide,by decide,by decide⟩
   obtain⟨hb1,hb2,hb3⟩:=hb;have h':(tyBits t == 0)=false:=by simpa using h
   clear h;cases hs:tySigned t
   · rw[hs] at hh hl hb3;have hb4:=hb3 rfl;have HH:=zak hh;have HL:=zak hl;have HS:=zak hs;clear hh hl hs hb3;go_enter Tryz.func104,Tryz.ntmps104
     go_wp2_with fail
     refine (ze8 t _).mono ?_;rintro e w1 ⟨rfl,rfl⟩;go_wp2_with fail
     refine (ze7 t _).mono ?_;rintro e w1 ⟨rfl,rfl⟩;rw[HS.out];go_wp2_with fail
     go_loop [6,7] (fun n i=> ∃k:Nat,k≤tyBits t∧i= .int .i64 k∧n= .int .i64 (hiN k)) (fun _ i=>(tyBits t).toNat - (intOf i).toNat)
     case atStart=>exact⟨0,by omega,rfl,rfl⟩
     case round=>
      obtain⟨k,hk,rfl,rfl⟩:=hrel;by_cases hlt:(k:Int) < tyBits t
      · have HP:=zak (zfc k (by omega));go_wp2_with fail
        go_round
        case rel=>exact⟨k+1,by omega,by go_num,by rw[HP.out]⟩
        case measure=>simp[intOf];omega
      · go_wp2_with fail
        refine (ze7 t _).mono ?_;rintro e w1 ⟨rfl,rfl⟩;rw[HS.out];go_wp2_with fail
        go_ret3
        have:k=(tyBits t).toNat:=by omega
        subst this;exact⟨by rw[HL.out,HH.out,HN.out];rfl,rfl⟩
   · rw[hs] at hh hl;have HH:=zak hh;have HL:=zak hl;have HS:=zak hs;clear hh hl hs hb3;go_enter Tryz.func104,Tryz.ntmps104
     go_wp2_with fail
     refine (ze8 t _).mono ?_;rintro e w1 ⟨rfl,rfl⟩;go_wp2_with fail
     refine (ze7 t _).mono ?_;rintro e w1 ⟨rfl,rfl⟩;rw[HS.out];go_wp2_with fail
     go_loop [6,7] (fun n i=> ∃k:Nat,k≤tyBits t - 1∧i= .int .i64 k∧n= .int .i64 (hiN k)) (fun _ i=>(tyBits t - 1).toNat - (intOf i).toNat)
     case atStart=>exact⟨0,by omega,rfl,rfl⟩
     case round=>
      obtain⟨k,hk,rfl,rfl⟩:=hrel;by_cases hlt:(k:Int) < tyBits t - 1
      · have HP:=zak (zfc k (by omega));go_wp2_with fail
        go_round
        case rel=>exact⟨k+1,by omega,by go_num,by rw[HP.out]⟩
        case measure=>simp[intOf];omega
      · have hk2:(k:Int)=tyBits t - 1:=by omega
        have HW:Hid (wrap64 (-hiN k)= -hiN k∧wrap64 (-hiN k - 1)= -hiN k - 1):=zak (by
         have h1:=zfa k (by omega);have h2:(0:Int) < 2 ^ k:=Int.pow_pos (by omega);unfold hiN wrap64;omega)
        have HK:=zak hk2;obtain⟨hw1,hw2⟩:=HW.out;clear hk2;go_wp2_with fail
        refine (ze7 t _).mono ?_;rintro e w1 ⟨rfl,rfl⟩;rw[HS.out];go_wp2_with fail
        go_ret3
        have:k=(tyBits t - 1).toNat:=by have:=HK.out;omega
        subst this;refine⟨?_,rfl⟩;rw[HL.out,HH.out,HN.out];simp only[if_true];exact zfd hw2 rfl
def RDecR (t:Int) (l:List UInt8) (w:World) (e:Ending) (w':World):Prop:=e= .returned (.tuple #[.int .i64 (decV t l),.int .i64 (decE t l)])∧ w=w'
set_option maxHeartbeats 4000000 in
theorem zfg (t:Int)(A:Option Addr)(n c:Nat)(l:List UInt8)(w:World)(hn:n=l.length)(hc:n≤c)(hl:n≤35184372088832)(hs:Sl w A (l.map bv)) :
 Calls Tryz.prog 165 #[.int .i64 t,.slice A n c] w (RDecR t l w):=by
 have HB:=fun W=>ze8 t W
 have HZ:=fun W=>ze6 t W
 have HG:=fun W=>ze7 t W
 by_cases h:tyBits t=0
 · have HL:=zak (zch l h);have h':(tyBits t == 0)=true:=by simpa using h
   clear h HB HZ HG;go_enter Tryz.func165,Tryz.ntmps165
   go_wp2_with fail
   refine (ze8 t _).mono ?_;rintro e w1 ⟨rfl,rfl⟩;go_wp2_with fail
   go_ret2
   obtain⟨h1,h2⟩:=HL.out;exact⟨by rw[h1,h2];rfl,rfl⟩
 clear HB HZ HG;have h':(tyBits t == 0)=false:=by simpa using h
 by_cases h1:(n:Int) < tySize t
 · have HL:=zak (zci l h (by omega));clear h;go_enter Tryz.func165,Tryz.ntmps165
   go_wp2_with fail
   refine (ze8 t _).mono ?_;rintro e w1 ⟨rfl,rfl⟩;go_wp2_with fail
   refine (ze6 t _).mono ?_;rintro e w1 ⟨rfl,rfl⟩;go_wp2_with fail
   go_ret2
   obtain⟨h1,h2⟩:=HL.out;exact⟨by rw[h1,h2];rfl,rfl⟩
 by_cases h2:tySize t < (n:Int)
 · have HL:=zak (zcj l h (by omega));clear h;go_enter Tryz.func165,Tryz.ntmps165
   go_wp2_with fail
   refine (ze8 t _).mono ?_;rintro e w1 ⟨rfl,rfl⟩;go_wp2_with fail
   refine (ze6 t _).mono ?_;rintro e w1 ⟨rfl,rfl⟩;go_wp2_with fail
   refine (ze6 t _).mono ?_;rintro e w1 ⟨rfl,rfl⟩;go_wp2_with fail
   go_ret2
   obtain⟨h1,h2⟩:=HL.out;exact⟨by rw[h1,h2];rfl,rfl⟩
 have h3:tySize t=(n:Int):=by omega
 have HW:=zak (zcm h);have hx:=zan l;rw[←hn] at hx;by_cases hg:tySigned t=true
 · have HL:=zak (zck l h (by omega) hg);have HN:=zak hn;have H3:=zak h3;have HS:=zak hg;clear h hn h3 hx hg;go_enter Tryz.func165,Tryz.ntmps165
   go_wp2_with fail
   refine (ze8 t _).mono ?_;rintro e w1 ⟨rfl,rfl⟩;go_wp2_with fail
   refine (ze6 t _).mono ?_;rintro e w1 ⟨rfl,rfl⟩;go_wp2_with fail
   refine (ze6 t _).mono ?_;rintro e w1 ⟨rfl,rfl⟩;go_wp2_with fail
   refine (ze7 t _).mono ?_;rintro e w1 ⟨rfl,rfl⟩;rw[HS.out];go_wp2_with fail
   refine (ze6 t _).mono ?_;rintro e w1 ⟨rfl,rfl⟩;go_wp2_with fail
   refine (ze4 A n c l (tySize t) _ HW.out HN.out H3.out hc hs).mono ?_;rintro e w2 ⟨rfl,rfl⟩;go_wp2_with fail
   go_ret2
   obtain⟨h1,h2⟩:=HL.out;exact⟨by rw[h1,h2];rfl,rfl⟩
 · have hg':tySigned t=false:=by simpa using hg
   have HL:=zak (zcl l h (by omega) hg');have hu:=zcn h hg';have h8:1≤tySize t∧tySize t≤8:=by rcases HW.out with hw | hw | hw | hw<;>omega
   have HG:=zak (zer A n c l 0 (tySize t) w hn hc (by omega) (by omega) (by omega) h8.1 h8.2 hs);have HE:=zak (show (l.drop (Int.toNat 0)).take (tySize t).toNat=l by rw[List.take_of_length_le (by simp;omega)];rfl);have hx':leN l≤4294967295:=by
    have h4:tySize t≤4:=by rcases hu with rfl | rfl | rfl | rfl<;>decide
    have:256 ^ n≤256 ^ 4:=Nat.pow_le_pow_right (by omega) (by omega)
    have h5:(256:Nat) ^ 4=4294967296:=by decide
    omega
   have HS:=zak hg';obtain⟨x,hxx⟩:∃x,leN l=x:=⟨_,rfl⟩;rw[hxx] at HL hx';have HX:=zak hxx;have HD:Hid (t=1∨t≠1):=zak (by omega);have H3:=zak h3;clear hxx h hn h8 HW hg hg' hx hu h3;rcases HD.out with h1t | h1t
   case inl=>
    have H1:=zak h1t;have h1':(t == 1)=true:=by simpa using h1t
    clear h1t;by_cases hx1:1 < x
    all_goals
     have HX1:=zak hx1;go_enter Tryz.func165,Tryz.ntmps165
     go_wp2_with fail
     refine (ze8 _ _).mono ?_;rintro e w1 ⟨rfl,rfl⟩;go_wp2_with fail
     refine (ze6 _ _).mono ?_;rintro e w1 ⟨rfl,rfl⟩;go_wp2_with fail
     refine (ze6 _ _).mono ?_;rintro e w1 ⟨rfl,rfl⟩;go_wp2_with fail
     refine (ze7 _ _).mono ?_;rintro e w1 ⟨rfl,rfl⟩;rw[HS.out];go_wp2_with fail
     refine (ze6 _ _).mono ?_;rintro e w1 ⟨rfl,rfl⟩;go_wp2_with fail
     refine HG.out.mono ?_;rintro e w2 ⟨rfl,rfl⟩;rw[HE.out,HX.out];go_wp2_with fail
     go_ret2
     obtain⟨h1,h2⟩:=HL.out;show _∧_;rw[h1,h2]
    · rw[if_pos ⟨H1.out,HX1.out⟩,if_pos ⟨H1.out,HX1.out⟩];exact⟨rfl,rfl⟩
    · rw[if_neg (fun h=>HX1.out h.2),if_neg (fun h=>HX1.out h.2)];exact⟨rfl,rfl⟩
   case inr=>
    have H1:=zak h1t;have h1':(t == 1)=false:=by simpa using h1t
    clear h1t;go_enter Tryz.func165,Tryz.ntmps165
    go_wp2_with fail
    refine (ze8 _ _).mono ?_;rintro e w1 ⟨rfl,rfl⟩;go_wp2_with fail
    refine (ze6 _ _).mono ?_;rintro e w1 ⟨rfl,rfl⟩;go_wp2_with fail
    refine (ze6 _ _).mono ?_;rintro e w1 ⟨rfl,rfl⟩;go_wp2_with fail
    refine (ze7 _ _).mono ?_;rintro e w1 ⟨rfl,rfl⟩;rw[HS.out];go_wp2_with fail
    refine (ze6 _ _).mono ?_;rintro e w1 ⟨rfl,rfl⟩;go_wp2_with fail
    refine HG.out.mono ?_;rintro e w2 ⟨rfl,rfl⟩;rw[HE.out,HX.out];go_wp2_with fail
    go_ret2
    obtain⟨h1,h2⟩:=HL.out;show _∧_;rw[h1,h2,if_neg (fun h=>H1.out h.1),if_neg (fun h=>H1.out h.1)];exact⟨rfl,rfl⟩
theorem zfh (t mx:Int)(A:Option Addr)(n c:Nat)(l:List UInt8)(w:World)(hn:n=l.length)(hc:n≤c)(hl:n≤35184372088832)(hs:Sl w A (l.map bv)) :
 Calls Tryz.prog 166 #[.int .i64 t,.int .i64 mx,.slice A n c] w (SameV (.int .i64 (checkE t mx l)) w):=by
 by_cases hk:tyKnown t=false
 · have HC:=zak (show checkE t mx l=15 by simp[checkE,hk]);have HK:=zak hk;clear hk hn;go_enter Tryz.func166,Tryz.ntmps166
   go_wp2_with fail
   refine (ze5 t _).mono ?_;rintro e w1 ⟨rfl,rfl⟩;rw[HK.out];go_wp2_with fail
   go_ret
   exact⟨zau HC.out.symm,rfl⟩
 have hk':tyKnown t=true:=by simpa using hk
 have HK:=zak hk';by_cases hb:0 < tyBits t
 · have HC:=zak (show checkE t mx l=decE t l by simp[checkE,hk',hb]);have HD:=zak (zfg t A n c l w hn hc hl hs);clear hk hk' hn;go_enter Tryz.func166,Tryz.ntmps166
   go_wp2_with fail
   refine (ze5 t _).mono ?_;rintro e w1 ⟨rfl,rfl⟩;rw[HK.out];go_wp2_with fail
   refine (ze8 t _).mono ?_;rintro e w1 ⟨rfl,rfl⟩;go_wp2_with fail
   refine HD.out.mono ?_;rintro e w2 ⟨rfl,rfl⟩;go_wp2_with fail
   go_ret
   exact⟨zau HC.out.symm,rfl⟩
 have HC:=zak (show checkE t mx l=if mx < (l.length:Int)∨ 256 < l.length then 3 else if t=9∧printB l=false then 4 else 0 by simp[checkE,hk',hb]);have HN:=zak hn;clear hk hk' hn;by_cases hbig:mx < (n:Int)∨ 256 < n
 · have HB:=zak hbig;clear hbig;go_enter Tryz.func166,Tryz.ntmps166
   go_wp2_with fail
   refine (ze5 t _).mono ?_;rintro e w1 ⟨rfl,rfl⟩;rw[HK.out];go_wp2_with fail
   refine (ze8 t _).mono ?_;rintro e w1 ⟨rfl,rfl⟩;have hbig:=HB.out;rcases hbig with hbig | hbig
   · go_wp2_with fail
     go_ret
     refine⟨zau ?_,rfl⟩;rw[HC.out,if_pos (by have:=HN.out;have:=HB.out;omega)]
   · have hbig':(256:Int) < (n:Int):=by omega
     go_wp2_with fail
     all_goals
      go_ret
      refine⟨zau ?_,rfl⟩;rw[HC.out,if_pos (by have:=HN.out;have:=HB.out;omega)]
 · have hn1:(n:Int)≤ mx:=by omega
   have hn2:(n:Int)≤ 256:=by omega
   have HNB:Hid (¬(mx < (l.length:Int)∨ 256 < l.length)):=zak (by have:=HN.out;omega);clear hbig;go_enter Tryz.func166,Tryz.ntmps166
   go_wp2_with fail
   refine (ze5 t _).mono ?_;rintro e w1 ⟨rfl,rfl⟩;rw[HK.out];go_wp2_with fail
   refine (ze8 t _).mono ?_;rintro e w1 ⟨rfl,rfl⟩;go_wp2_with fail
   go_loop [9] (fun i=> ∃k:Nat,k≤n∧i= .int .i64 k∧Hid (t=9→ ∀j (hj:j < l.length),j < k→32≤(l[j]).toNat∧(l[j]).toNat≤126)) (fun i=>n - (intOf i).toNat)
   case atStart=>exact⟨0,by omega,rfl,zak (by intro _ j _ h;omega)⟩
   case round=>
    obtain⟨k,hk,rfl,HA⟩:=hrel;by_cases hlt:k < n
    · obtain⟨b,off,rfl,hcell⟩:=hs.byte_ (j:=k) (by have:=HN.out;omega);obtain⟨x,hx⟩:∃x,x=(l[k]'(by have:=HN.out;omega)).toNat:=⟨_,rfl⟩;rw[←hx] at hcell;have HX:=zak hx;clear hx;have H9:Hid (t=9∨t≠9):=zak (by omega);rcases H9.out with h9 | h9
      · have h9':(t == 9)=true:=by simpa using h9
        have HT:=zak h9;clear h9;by_cases hp:32≤x∧x≤126
        · obtain⟨hp1,hp2⟩:=hp;go_wp2_with fail
          go_round
          case rel=>
           refine⟨k+1,by omega,by go_num,zak ?_⟩;intro ht j hj hjk;by_cases e:j=k
           · subst e;rw[←HX.out];exact⟨hp1,hp2⟩
           · exact HA.out ht j hj (by omega)
          case measure=>simp[intOf];omega
        · have HP:=zak hp;rcases (show x < 32∨(32≤x∧126 < x) by omega) with hp1 | ⟨hp1,hp2⟩
          all_goals
           clear hp;go_wp2_with fail
           go_ret
           refine⟨zau ?_,rfl⟩;rw[HC.out,if_neg HNB.out,if_pos ⟨HT.out,zco l k (by have:=HN.out;omega) (by rw[←HX.out];exact HP.out)⟩]
      · have h9':(t == 9)=false:=by simpa using h9
        clear h9;go_wp2_with fail
        go_round
        case rel=>
         refine⟨k+1,by omega,by go_num,zak ?_⟩;intro ht;exact absurd ht (by simpa using h9')
        case measure=>simp[intOf];omega
    · go_wp2_with fail
      go_ret
      refine⟨zau ?_,rfl⟩;rw[HC.out,if_neg HNB.out,if_neg ?_];rintro⟨h9,hp⟩;rw[zcp l (fun j hj=>HA.out h9 j hj (by have:=HN.out;omega))] at hp;cases hp
end
section
open Go.RowKit
theorem rname (s:ByteArray)(w:World)(hsz:s.size≤9223372036854775807):Calls Tryz.prog 105 #[.string s] w (SameV (.bool (nameB s)) w):=by
 by_cases h0:s.size=0
 · have HR:Hid (nameB s=false):=zak (by simp[nameB,h0]);have h0':(s.size:Int) < 1:=by omega
   clear h0;go_enter Tryz.func105,Tryz.ntmps105
   go_wp2_with fail
   go_ret
   exact⟨zav HR.out.symm,rfl⟩
 have hp:0 < s.size:=by omega
 have hp':(1:Int)≤ s.size:=by omega
 by_cases h16:16 < s.size
 · have HR:Hid (nameB s=false):=zak (by simp[nameB];intro _ h;omega);clear h0;go_enter Tryz.func105,Tryz.ntmps105
   go_wp2_with fail
   go_ret
   exact⟨zav HR.out.symm,rfl⟩
 have h16':s.size≤16:=by omega
 cases hl:letterB (s[0]).toNat
 · have HR:Hid (nameB s=false):=zak (by simp only[nameB,zct s hp,hl];simp);have hl2:(s[0]).toNat < 97∨(97≤(s[0]).toNat∧122 < (s[0]).toNat):=by simp[letterB] at hl;omega
   clear h0 hl h16;rcases hl2 with hl2 | ⟨hl2,hl3⟩
   all_goals
    go_enter Tryz.func105,Tryz.ntmps105
    go_wp2_with fail
    go_ret
    exact⟨zav HR.out.symm,rfl⟩
 · have HR:Hid ((∀k (hk:k < s.size),innerB (s[k]).toNat=true)→ nameB s=true):=zak (by intro h;simp only[nameB,zct s hp,hl,zcs s h];simp[h0,h16']);have hl2:97≤(s[0]).toNat∧(s[0]).toNat≤122:=by simpa [letterB] using hl
   obtain⟨hl3,hl4⟩:=hl2;clear h0 hl h16;go_enter Tryz.func105,Tryz.ntmps105
   go_wp2_with fail
   go_loop [3,4] (fun i _=> ∃k:Nat,k≤s.size∧i= .int .i64 k∧Hid (∀j (hj:j < s.size),j < k→innerB (s[j]).toNat=true)) (fun i _=>s.size - (intOf i).toNat)
   case atStart=>exact⟨0,by omega,rfl,zak (by intro j _ h;omega)⟩
   case round=>
    obtain⟨k,hk,rfl,HA⟩:=hrel;by_cases hlt:k < s.size
    · obtain⟨x,hx⟩:∃x,x=(s[k]).toNat:=⟨_,rfl⟩;cases hi:innerB x
      · have HI:Hid (nameB s=false):=zak (zcr s k hlt (by rw[←hx];exact hi));have hx2: ¬(97≤(s[k]).toNat∧(s[k]).toNat≤122)∧ ¬(48≤(s[k]).toNat∧(s[k]).toNat≤57)∧ (s[k]).toNat≠95:=by
         rw[←hx];simp only[innerB,letterB,Bool.or_eq_false_iff,Bool.and_eq_false_iff,decide_eq_false_iff_not] at hi;omega
        have HX:=zak hx2;clear hi hx hx2;go_wp2_with fail
        all_goals first
         | (go_ret;exact⟨zav HI.out.symm,rfl⟩)
         | (exfalso;have:=HX.out;simp at *;omega)
      · have HI:Hid (innerB (s[k]).toNat=true):=zak (by rw[←hx];exact hi);have hx2:(97≤(s[k]).toNat∧(s[k]).toNat≤122)∨ (48≤(s[k]).toNat∧(s[k]).toNat≤57)∨ (s[k]).toNat=95:=by
         rw[←hx];simp only[innerB,letterB,Bool.or_eq_true,Bool.and_eq_true,decide_eq_true_iff] at hi;omega
        have HX:=zak hx2;clear hi hx hx2;go_wp2_with fail
        all_goals first
         | (go_round
            case rel=>
             refine⟨k+1,by omega,by go_num,zak ?_⟩;intro j hj hjk;by_cases e:j=k
             · subst e;exact HI.out
             · exact HA.out j hj (by omega)
            case measure=>simp[intOf];omega)
         | (exfalso;have:=HX.out;simp at *;omega)
    · go_wp2_with fail
      go_ret
      exact⟨zav (HR.out (fun j hj=>HA.out j hj (by omega))).symm,rfl⟩
def RValR (E:Ent) (l:List UInt8) (w:World) (e:Ending) (w':World):Prop:=e= .returned (.int .u32 (valueE E.ty E.mx E.lo E.hi l))∧ Below w.heap.size w w'
theorem zfi (E:Ent)(A0:Option Addr)(n0 c0:Nat)(A:Option Addr)(n c:Nat)(l:List UInt8)(w:World)(hn:n=l.length)(hc:n≤c)(hl:n≤35184372088832)(hs:Sl w A (l.map bv)) :
 Calls Tryz.prog 107 #[.agg (entV E A0 n0 c0),.slice A n c] w (RValR E l w):=by
 obtain⟨ix,sub,nm,ty,acc,mp,st,mx,lo,hi,df⟩:=E;have hs1:=hs.alloc (.cells (entV ⟨ix,sub,nm,ty,acc,mp,st,mx,lo,hi,df⟩ A0 n0 c0) 90);have HN:=zak hn;unfold entV at *
 clear hn;cases hk:tyKnown ty
 · have HV:Hid (valueE ty mx lo hi l=100925511):=zak (by simp[valueE,hk]);have HK:=zak hk;clear hk;go_enter Tryz.func107,Tryz.ntmps107
   go_wp2_with fail
   refine (ze5 ty _).mono ?_;rintro e w1 ⟨rfl,rfl⟩;rw[HK.out];go_wp2_with fail
   go_ret
   exact⟨zau HV.out.symm,kBl⟩
 by_cases hb:0 < tyBits ty
 · obtain⟨v,hv⟩:∃v,v=decV ty l:=⟨_,rfl⟩;obtain⟨er,he⟩:∃er,er=decE ty l:=⟨_,rfl⟩;have HV:Hid (valueE ty mx lo hi l=if er=2 then 101122067 else if er=3 then 101122066 else if er≠0 then 101253168 else if v < lo then 101253170 else if hi < v then 101253169 else 0):=zak (by rw[hv,he];simp[valueE,hk,hb]);have HK:=zak hk;have HE:=zak (And.intro hv he);clear hk hv he;go_enter Tryz.func107,Tryz.ntmps107
   go_wp2_with fail
   refine (ze5 ty _).mono ?_;rintro e w1 ⟨rfl,rfl⟩;rw[HK.out];go_wp2_with fail
   refine (ze8 ty _).mono ?_;rintro e w1 ⟨rfl,rfl⟩;go_wp2_with fail
   refine (zfg ty A n c l _ HN.out hc hl hs1).mono ?_;rintro e w1 ⟨rfl,rfl⟩;rw[←HE.out.1,←HE.out.2];go_wp2_with fail
   all_goals
    go_ret
    refine⟨zau ?_,kBl⟩;show _=valueE ty mx lo hi l;rw[HV.out];clear HV HE
    simp_all
   all_goals omega
 · obtain⟨er,he⟩:∃er,er=checkE ty mx l:=⟨_,rfl⟩;have HV:Hid (valueE ty mx lo hi l=if er=3 then 101122066 else if er=4 then 101253168 else 0):=zak (by rw[he];simp[valueE,hk,hb]);have HK:=zak hk;have HE:=zak he;clear hk he;go_enter Tryz.func107,Tryz.ntmps107
   go_wp2_with fail
   refine (ze5 ty _).mono ?_;rintro e w1 ⟨rfl,rfl⟩;rw[HK.out];go_wp2_with fail
   refine (ze8 ty _).mono ?_;rintro e w1 ⟨rfl,rfl⟩;go_wp2_with fail
   refine (zfh ty mx A n c l _ HN.out hc hl hs1).mono ?_;rintro e w1 ⟨rfl,rfl⟩;rw[←HE.out];go_wp2_with fail
   all_goals
    go_ret
    refine⟨zau ?_,kBl⟩;show _=valueE ty mx lo hi l;rw[HV.out];clear HV HE
    simp_all
theorem zfj (E:Ent)(v:Int)(hv:valueE E.ty E.mx E.lo E.hi E.df=v):rightE E=if E.ix < 1∨65535 < E.ix∨E.sub < 0∨255 < E.sub then 9 else if nameB E.nm=false then 14 else if tyKnown E.ty=false then 15 else if E.acc < 1∨4 < E.acc then 1 else
 if tyNum E.ty=true∧(E.mx≠0∨E.lo < tyLow E.ty∨tyHigh E.ty < E.hi∨E.hi < E.lo) then 1 else if tyNum E.ty=false∧(E.lo≠0∨E.hi≠0∨E.mx < 1∨256 < E.mx∨E.mp=true) then 1 else
 if E.st=true∧E.acc < 3 then 1 else if E.mp=true∧E.acc=1 then 1 else if v≠0 then 4 else 0:=by
 subst hv;obtain⟨ix,sub,nm,ty,acc,mp,st,mx,lo,hi,df⟩:=E;unfold rightE placeB flagsB limitsB numberedB sizedB;generalize valueE _ _ _ _ _=v;generalize tyLow ty=a;generalize tyHigh ty=b;simp only[];by_cases h1:ix < 1∨65535 < ix∨sub < 0∨255 < sub
 · rw[if_pos (by simp;omega),if_pos h1]
 rw[if_neg (by simp;omega),if_neg h1];cases nameB nm
 · rfl
 cases tyKnown ty
 · rfl
 cases tyNum ty<;>cases mp<;>cases st<;>simp<;>(repeat' split)<;> first | rfl | omega | (simp_all;done) | (simp_all;omega)
end
end
end Go.Proofs.YtkkpjbjmhaecjaaGreat
