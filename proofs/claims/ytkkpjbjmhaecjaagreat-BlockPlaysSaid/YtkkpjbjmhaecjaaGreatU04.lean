/- None -/
import Derived.Test.YtkkpjbjmhaecjaaGreatU01
namespace Go.Proofs.YtkkpjbjmhaecjaaGreat
set_option linter.all false
section
section
section
open Go.RowKit
def tySize (t:Int):Int:=if t=1 then 1 else if t=2 then 1 else if t=5 then 1 else if t=3 then 2 else if t=6 then 2 else if t=4 then 4 else if t=7 then 4 else if t=21 then 8 else 0
def tyBits (t:Int):Int:=if t=1 then 1 else 8 * tySize t
def tySigned (t:Int):Bool:=decide (t=2) || decide (t=3) || decide (t=4) || decide (t=21)
def tyKnown (t:Int):Bool:=decide (t=1) || decide (t=2) || decide (t=3) || decide (t=4) || decide (t=5) || decide (t=6) || decide (t=7) || decide (t=9) || decide (t=10) || decide (t=15) || decide (t=21)
def tyHigh (t:Int):Int:=if t=1 then 1 else if t=2 then 127 else if t=3 then 32767 else if t=4 then 2147483647 else if t=5 then 255 else if t=6 then 65535 else if t=7 then 4294967295 else if t=21 then 9223372036854775807 else 0
def tyLow (t:Int):Int:=if tySigned t=true then - tyHigh t - 1 else 0
def tyNum (t:Int):Bool:=decide (tyBits t≠0)
theorem zb7 (t:Int):t=1∨t=2∨t=3∨t=4∨t=5∨t=6∨t=7∨t=9∨t=10∨t=15∨t=21∨(t≠1∧t≠2∧t≠3∧t≠4∧t≠5∧t≠6∧t≠7∧t≠9∧t≠10∧t≠15∧t≠21):=by omega
theorem zb9 (t:Int)(h:tyBits t≠0):t=1∨t=2∨t=3∨t=4∨t=5∨t=6∨t=7∨t=21:=by
 rcases zb7 t with rfl | rfl | rfl | rfl | rfl | rfl | rfl | rfl | rfl | rfl | rfl | ⟨h1,h2,h3,h4,h5,h6,h7,h9,h10,h15,h21⟩<;> simp_all [tyBits,tySize]
theorem zca {t:Int}(h:t≠1∧t≠2∧t≠3∧t≠4∧t≠5∧t≠6∧t≠7∧t≠9∧t≠10∧t≠15∧t≠21):tySize t=0∧tyBits t=0∧tySigned t=false∧tyKnown t=false∧tyHigh t=0∧tyLow t=0:=by
 obtain⟨h1,h2,h3,h4,h5,h6,h7,h9,h10,h15,h21⟩:=h;simp[tySize,tyBits,tySigned,tyKnown,tyHigh,tyLow,h1,h2,h3,h4,h5,h6,h7,h9,h10,h15,h21]
def sgnN (s:Int) (n:Nat):Int:=if s=1 then (if n < 128 then (n:Int) else (n:Int) - 256) else if s=2 then (if n < 32768 then (n:Int) else (n:Int) - 65536) else
 if s=4 then (if n < 2147483648 then (n:Int) else (n:Int) - 4294967296) else (if n < 9223372036854775808 then (n:Int) else (n:Int) - 18446744073709551616)
def decV (t:Int) (l:List UInt8):Int:=if tyBits t=0 then 0 else if (l.length:Int) < tySize t then 0 else if tySize t < (l.length:Int) then 0 else
 if tySigned t=true then sgnN (tySize t) (leN l) else if t=1∧1 < leN l then 0 else (leN l:Int)
def decE (t:Int) (l:List UInt8):Int:=if tyBits t=0 then 15 else if (l.length:Int) < tySize t then 2 else if tySize t < (l.length:Int) then 3 else
 if tySigned t=true then 0 else if t=1∧1 < leN l then 9 else 0
def printB (l:List UInt8):Bool:=l.all fun c=>decide (32≤c.toNat) && decide (c.toNat≤126)
def checkE (t most:Int) (l:List UInt8):Int:=if tyKnown t=false then 15 else if 0 < tyBits t then decE t l else if most < (l.length:Int)∨ 256 < l.length then 3 else if t=9∧printB l=false then 4 else 0
def valueE (t mx lo hi:Int) (l:List UInt8):Int:=
 if tyKnown t=false then 100925511 else
 if 0 < tyBits t then (if decE t l=2 then 101122067 else if decE t l=3 then 101122066 else if decE t l≠0 then 101253168 else if decV t l < lo then 101253170 else if hi < decV t l then 101253169 else 0)
 else if checkE t mx l=3 then 101122066 else if checkE t mx l=4 then 101253168 else 0
theorem zcb (t mx:Int)(l:List UInt8)(h0: ¬ 0 < tyBits t)(hk:tyKnown t=true):checkE t mx l=3∨checkE t mx l=4∨checkE t mx l=0:=by
 unfold checkE;rw[if_neg (by rw[hk];decide),if_neg h0];split
 · exact .inl rfl
 · split
   · exact .inr (.inl rfl)
   · exact .inr (.inr rfl)
theorem zcc (t:Int):0≤tyBits t∧tyBits t≤64:=by
 rcases zb7 t with rfl | rfl | rfl | rfl | rfl | rfl | rfl | rfl | rfl | rfl | rfl | h
 iterate 11 exact by decide
 rw[(zca h).2.1];omega
theorem zcd {t:Int}(h:tyBits t≠0):tyKnown t=true:=by
 rcases zb9 t h with rfl | rfl | rfl | rfl | rfl | rfl | rfl | rfl<;>rfl
theorem zce (n:Nat)(h:n < 256):wrap64 (IntKind.u64.wrap ((n:Int) * 72057594037927936)) / 72057594037927936=sgnN 1 n:=by
 unfold wrap64;rw[IntKind.wrap_u64];simp[sgnN];split<;>omega
theorem zcf (n:Nat)(h:n < 65536):wrap64 (IntKind.u64.wrap ((n:Int) * 281474976710656)) / 281474976710656=sgnN 2 n:=by
 unfold wrap64;rw[IntKind.wrap_u64];simp[sgnN];split<;>omega
theorem zcg (n:Nat)(h:n < 4294967296):wrap64 (IntKind.u64.wrap ((n:Int) * 4294967296)) / 4294967296=sgnN 4 n:=by
 unfold wrap64;rw[IntKind.wrap_u64];simp[sgnN];split<;>omega
def Wd (wd:Int):Prop:=wd=1∨wd=2∨wd=4∨wd=8
theorem zch {t:Int}(l:List UInt8)(h:tyBits t=0):decV t l=0∧decE t l=15:=by simp[decV,decE,h]
theorem zci {t:Int}(l:List UInt8)(h:tyBits t≠0)(h1:(l.length:Int) < tySize t):decV t l=0∧decE t l=2:=by simp[decV,decE,h,h1]
theorem zcj {t:Int}(l:List UInt8)(h:tyBits t≠0)(h1:tySize t < (l.length:Int)):decV t l=0∧decE t l=3:=by
 have: ¬(l.length:Int) < tySize t:=by omega
 simp[decV,decE,h,h1,this]
theorem zck {t:Int}(l:List UInt8)(h:tyBits t≠0)(h1:tySize t=(l.length:Int))(hs:tySigned t=true):decV t l=sgnN (tySize t) (leN l)∧ decE t l=0:=by
 simp[decV,decE,h,h1,hs]
theorem zcl {t:Int}(l:List UInt8)(h:tyBits t≠0)(h1:tySize t=(l.length:Int))(hs:tySigned t=false):decV t l=(if t=1∧1 < leN l then 0 else (leN l:Int))∧ decE t l=(if t=1∧1 < leN l then 9 else 0):=by
 simp[decV,decE,h,h1,hs]
theorem zcm {t:Int}(h:tyBits t≠0):Wd (tySize t):=by
 rcases zb9 t h with rfl | rfl | rfl | rfl | rfl | rfl | rfl | rfl
 all_goals (unfold Wd;decide)
theorem zcn {t:Int}(h:tyBits t≠0)(hs:tySigned t=false):t=1∨t=5∨t=6∨t=7:=by
 rcases zb9 t h with rfl | rfl | rfl | rfl | rfl | rfl | rfl | rfl
 all_goals first | omega | exact absurd hs (by decide)
theorem zco (l:List UInt8)(k:Nat)(h:k < l.length)(hb: ¬(32≤(l[k]).toNat∧(l[k]).toNat≤126)):printB l=false:=by
 simp only[printB,List.all_eq_false];exact⟨l[k],List.getElem_mem h,by simp;omega⟩
theorem zcp (l:List UInt8)(h:∀k (hk:k < l.length),32≤(l[k]).toNat∧(l[k]).toNat≤126):printB l=true:=by
 simp only[printB,List.all_eq_true];intro x hx;obtain⟨k,hk,rfl⟩:=List.getElem_of_mem hx
 have:=h k hk
 simp[this.1,this.2]
end
section
open Go.RowKit
structure Ent where
 ix:Int
 sub:Int
 nm:ByteArray
 ty:Int
 acc:Int
 mp:Bool
 st:Bool
 mx:Int
 lo:Int
 hi:Int
 df:List UInt8
def entV (E:Ent) (A:Option Addr) (n c:Nat):Array Value:=#[.int .i64 E.ix,.int .i64 E.sub,.string E.nm,.int .i64 E.ty,.int .i64 E.acc,.bool E.mp,.bool E.st,.int .i64 E.mx,.int .i64 E.lo,.int .i64 E.hi,.slice A n c]
def letterB (c:Nat):Bool:=decide (97≤c) && decide (c≤122)
def innerB (c:Nat):Bool:=letterB c || (decide (48≤c) && decide (c≤57)) || decide (c=95)
def nameB (s:ByteArray):Bool:=decide (s.size≠0) && decide (s.size≤16) && letterB (s.data.toList.headD 0).toNat && s.data.toList.all fun c=>innerB c.toNat
def flagsB (acc:Int) (st mp:Bool):Bool:=if acc=1 then (!st && !mp) else if acc=2 then !st else decide (acc=3) || decide (acc=4)
def numberedB (t mx lo hi:Int):Bool:=decide (mx=0) && decide (tyLow t≤lo) && decide (lo≤hi) && decide (hi≤tyHigh t)
def sizedB (mp:Bool) (mx lo hi:Int):Bool:=decide (lo=0) && decide (hi=0) && decide (1≤mx) && decide (mx≤256) && !mp
def limitsB (t:Int) (mp:Bool) (mx lo hi:Int):Bool:=if tyNum t=true then numberedB t mx lo hi else sizedB mp mx lo hi
def placeB (ix sub:Int):Bool:=decide (1≤ix) && decide (ix≤65535) && decide (0≤sub) && decide (sub≤255)
def rightE (E:Ent):Int:=if placeB E.ix E.sub=false then 9 else if nameB E.nm=false then 14 else if tyKnown E.ty=false then 15 else
 if flagsB E.acc E.st E.mp=false then 1 else if limitsB E.ty E.mp E.mx E.lo E.hi=false then 1 else if valueE E.ty E.mx E.lo E.hi E.df≠0 then 4 else 0
def readE (acc:Int):Int:=if acc=3 then 100728833 else 0
def writeE (acc:Int):Int:=if acc=1∨acc=2 then 100728834 else 0
def beforeB (a b c d:Int):Bool:=decide (a < c∨a=c∧b < d)
theorem zcq (s:ByteArray)(k:Nat)(h:k < s.size):s.data.toList[k]'(by simpa using h)=s[k]:=rfl
theorem zcr (s:ByteArray)(k:Nat)(h:k < s.size)(hb:innerB (s[k]).toNat=false):nameB s=false:=by
 have:(s.data.toList.all fun c=>innerB c.toNat)=false:=by
  rw[List.all_eq_false];exact⟨s[k],by rw[←zcq s k h];exact List.getElem_mem _,by rw[hb];decide⟩
 simp[nameB,this]
theorem zcs (s:ByteArray)(h:∀k (hk:k < s.size),innerB (s[k]).toNat=true):(s.data.toList.all fun c=>innerB c.toNat)=true:=by
 rw[List.all_eq_true];intro x hx;obtain⟨k,hk,rfl⟩:=List.getElem_of_mem hx;exact h k (by simpa using hk)
theorem zct (s:ByteArray)(h:0 < s.size):s.data.toList.headD 0=s[0]:=by
 have h1:=zcq s 0 h;cases hs:s.data.toList with
 | nil=>have h2:s.data.toList.length=0:=by rw[hs];rfl
        have h3:s.size=s.data.toList.length:=by simp
        omega
 | cons a l=>simp[hs] at h1;simp[←h1]
end
end
section
section
open Go.RowKit
def befE (E:Ent) (ix sub:Int):Bool:=beforeB E.ix E.sub ix sub
def SortedE (L:List Ent):Prop:=L.Pairwise fun a b=>befE a b.ix b.sub=true
theorem zcu (a b c d:Int):beforeB a b c d=true ↔ (a < c∨a=c∧b < d):=by unfold beforeB;exact decide_eq_true_iff
theorem zcv (a b c d e f:Int)(h:beforeB a b c d=true)(k:beforeB c d e f=true):beforeB a b e f=true:=by
 rw[zcu] at *
 omega
theorem zcw (L:List Ent)(E:Ent)(h:SortedE L)(hl:∀D,L.getLast? =some D→befE D E.ix E.sub=true):SortedE (L ++ [E]):=by
 unfold SortedE at *
 rw[List.pairwise_append];refine⟨h,List.pairwise_singleton _ _,?_⟩;intro a ha b hb;rw[List.mem_singleton] at hb;subst hb;rcases List.eq_nil_or_concat L with rfl | ⟨M,D,rfl⟩
 · cases ha
 · have hD:=hl D (by simp);rw[List.concat_eq_append] at *
   rw[List.mem_append,List.mem_singleton] at ha;rcases ha with ha | rfl
   · have:=(List.pairwise_append.1 h).2.2 a ha D (by simp)
     exact zcv _ _ _ _ _ _ this hD
   · exact hD
def seekL (L:List Ent) (ix sub:Int):Nat:=(L.takeWhile fun E=>befE E ix sub).length
theorem zcx (L:List Ent)(ix sub:Int):seekL L ix sub≤L.length:=by
 unfold seekL;exact (List.takeWhile_prefix _).length_le
theorem zcy (L:List Ent)(ix sub:Int)(i:Nat)(E:Ent)(hi:i < seekL L ix sub)(hE:L[i]? =some E):befE E ix sub=true:=by
 induction L generalizing i with
 | nil=>simp at hE
 | cons D L ih=>
   unfold seekL at hi;rw[List.takeWhile_cons] at hi;split at hi
   · rename_i hD;cases i with
     | zero=>simp at hE;subst hE;exact hD
     | succ i=>exact ih i (by unfold seekL;simpa using hi) (by simpa using hE)
   · simp at hi
theorem zcz (L:List Ent)(ix sub:Int)(hs:SortedE L)(i:Nat)(E:Ent)(hi:seekL L ix sub≤i)(hE:L[i]? =some E):befE E ix sub=false:=by
 induction L generalizing i with
 | nil=>simp at hE
 | cons D L ih=>
   unfold SortedE at hs;rw[List.pairwise_cons] at hs;unfold seekL at hi;rw[List.takeWhile_cons] at hi;split at hi
   · rename_i hD;cases i with
     | zero=>simp at hi
     | succ i=>exact ih hs.2 i (by unfold seekL;simpa using hi) (by simpa using hE)
   · rename_i hD;cases i with
     | zero=>simp at hE;subst hE;simpa using hD
     | succ i=>
       have hm:E ∈ L:=List.mem_of_getElem? (by simpa using hE);have h1:=hs.1 E hm;cases hb:befE E ix sub
       · rfl
       · exact absurd (zcv _ _ _ _ _ _ h1 hb) (by simpa [befE] using hD)
theorem zc0 (L:List Ent)(ix sub:Int)(hs:SortedE L)(m:Nat)(E:Ent)(hE:L[m]? =some E):befE E ix sub=decide (m < seekL L ix sub):=by
 rcases Nat.lt_or_ge m (seekL L ix sub) with h | h
 · rw[zcy L ix sub m E h hE,decide_eq_true h]
 · rw[zcz L ix sub hs m E h hE,decide_eq_false (by omega)]
def findA:List Ent→Int→Int→Nat→Int→Int
 | [],_,_,_,k=>k
 | E :: L,ix,sub,i,k=>findA L ix sub (i+1) (if E.ix≠ix then k else if E.sub=sub then (i:Int) else if k= -2 then -1 else k)
def findL (L:List Ent) (ix sub:Int):Int:=findA L ix sub 0 (-2)
theorem zc1 (L:List Ent)(ix sub:Int)(i:Nat)(k:Int)(h:∀E ∈ L,E.ix≠ix):findA L ix sub i k=k:=by
 induction L generalizing i k with
 | nil=>rfl
 | cons D L ih=>
   rw[findA,if_pos (h D (by simp))];exact ih _ _ (fun E hE=>h E (by simp[hE]))
theorem zc2 (L:List Ent)(ix sub:Int)(i:Nat)(k:Int)(h:∀E ∈ L,¬(E.ix=ix∧E.sub=sub)):findA L ix sub i k=if k= -2∧(∃E ∈ L,E.ix=ix) then -1 else k:=by
 induction L generalizing i k with
 | nil=>simp[findA]
 | cons D L ih=>
   have hr:=fun k'=>ih (i+1) k' (fun E hE=>h E (by simp[hE]))
   rw[findA,hr];by_cases hD:D.ix=ix
   · have hs:D.sub≠sub:=fun e=>h D (by simp) ⟨hD,e⟩
     rw[if_neg (show ¬D.ix≠ix from fun h=>h hD),if_neg hs];by_cases hk:k= -2
     · subst hk;simp[hD]
     · simp[hk]
   · rw[if_pos hD]
     have:(∃E ∈ D :: L,E.ix=ix) ↔ (∃E ∈ L,E.ix=ix):=by
      constructor
      · rintro⟨E,hE,e⟩;rcases List.mem_cons.1 hE with rfl | hE
        · exact absurd e hD
        · exact⟨E,hE,e⟩
      · rintro⟨E,hE,e⟩;exact⟨E,by simp[hE],e⟩
     simp only[this]
theorem zc3 (L M:List Ent)(E:Ent)(ix sub:Int)(i:Nat)(k:Int)(hE:E.ix=ix∧E.sub=sub)(hM:∀D ∈ M,¬(D.ix=ix∧D.sub=sub)):findA (L ++ E :: M) ix sub i k=((i+L.length:Nat):Int):=by
 induction L generalizing i k with
 | nil=>
   rw[List.nil_append,findA,if_neg (show ¬E.ix≠ix from fun h=>h hE.1),if_pos hE.2,zc2 M ix sub _ _ hM];rw[if_neg (by rintro⟨h,_⟩;omega)]
   rfl
 | cons D L ih=>
   rw[List.cons_append,findA,ih];simp only[List.length_cons]
   congr 1
   omega
theorem zc4 (L:List Ent)(hs:SortedE L)(i j:Nat)(E D:Ent)(hi:L[i]? =some E)(hj:L[j]? =some D)(hij:i < j):befE E D.ix D.sub=true:=by
 obtain⟨h1,e1⟩:=List.getElem?_eq_some_iff.1 hi;obtain⟨h2,e2⟩:=List.getElem?_eq_some_iff.1 hj
 have:=List.pairwise_iff_getElem.1 hs i j h1 h2 hij
 rw[e1,e2] at this;exact this
def hereB (o:Option Ent) (ix sub:Int):Bool:=match o with | some E=>decide (E.ix=ix) && decide (E.sub=sub) | none=>false
def nearB (o:Option Ent) (ix:Int):Bool:=match o with | some E=>decide (E.ix=ix) | none=>false
theorem zc5 (L:List Ent)(ix sub:Int)(hs:SortedE L)(h:hereB L[seekL L ix sub]? ix sub=true):findL L ix sub=(seekL L ix sub:Nat):=by
 cases hk:L[seekL L ix sub]? with
 | none=>rw[hk] at h;cases h
 | some E=>
   rw[hk] at h;simp only[hereB,Bool.and_eq_true,decide_eq_true_iff] at h;obtain⟨h1,e1⟩:=List.getElem?_eq_some_iff.1 hk;generalize seekL L ix sub=k at *
   have hL:L=L.take k ++ E :: L.drop (k+1):=by
    rw[←e1]
    simp
   have hM:∀D ∈ L.drop (k+1),¬(D.ix=ix∧D.sub=sub):=by
    intro D hD hp;obtain⟨j,hj,e⟩:=List.getElem_of_mem hD;have hj':L[k+1+j]? =some D:=by
     rw[←e,List.getElem_drop];rw[List.length_drop] at hj;exact List.getElem?_eq_getElem _
    have:=zc4 L hs k (k+1+j) E D hk hj' (by omega)
    unfold befE at this;rw[zcu] at this;omega
   have:=zc3 (L.take k) (L.drop (k+1)) E ix sub 0 (-2) h hM
   unfold findL;rw[←hL,List.length_take] at this;rw[this]
   congr 1
   omega
theorem zc6 (L:List Ent)(ix sub:Int)(hs:SortedE L)(h:hereB L[seekL L ix sub]? ix sub=false):∀E ∈ L,¬(E.ix=ix∧E.sub=sub):=by
 intro E hE hp;obtain⟨i,hi,e⟩:=List.getElem_of_mem hE;have hi':L[i]? =some E:=by rw[←e];exact List.getElem?_eq_getElem _
 have hge:seekL L ix sub≤i:=by
  rcases Nat.lt_or_ge i (seekL L ix sub) with hl | hg
  · have:=zcy L ix sub i E hl hi'
    unfold befE at this;rw[zcu] at this;omega
  · exact hg
 have hk:seekL L ix sub < L.length:=by omega
 have hD:=List.getElem?_eq_getElem hk;rw[hD] at h;have h1:=zcz L ix sub hs _ _ (Nat.le_refl _) hD;generalize hDD:L[seekL L ix sub]=D at *
 simp only[hereB] at h;rcases Nat.lt_or_ge (seekL L ix sub) i with hl | hg
 · have h2:=zc4 L hs _ i D E hD hi' hl;unfold befE at h1 h2;rw[zcu] at h2;have h3: ¬(D.ix < ix∨D.ix=ix∧D.sub < sub):=fun hh=>by rw[(zcu _ _ _ _).2 hh] at h1;cases h1
   omega
 · have hei:seekL L ix sub=i:=by omega
   rw[hei,hi'] at hD;injection hD with hD
   subst hD;simp[hp.1,hp.2] at h
theorem zc7 (L:List Ent)(ix sub:Int)(hs:SortedE L)(h:hereB L[seekL L ix sub]? ix sub=false)(hn:nearB L[seekL L ix sub]? ix=true∨(1≤seekL L ix sub∧nearB L[seekL L ix sub - 1]? ix=true)):findL L ix sub= -1:=by
 unfold findL;rw[zc2 L ix sub 0 (-2) (zc6 L ix sub hs h),if_pos];refine⟨rfl,?_⟩;rcases hn with hn | ⟨_,hn⟩
 · cases hk:L[seekL L ix sub]? with
   | none=>rw[hk] at hn;cases hn
   | some E=>rw[hk] at hn;exact⟨E,List.mem_of_getElem? hk,by simpa [nearB] using hn⟩
 · cases hk:L[seekL L ix sub - 1]? with
   | none=>rw[hk] at hn;cases hn
   | some E=>rw[hk] at hn;exact⟨E,List.mem_of_getElem? hk,by simpa [nearB] using hn⟩
theorem zc8 (L:List Ent)(ix sub:Int)(hs:SortedE L)(h1:nearB L[seekL L ix sub]? ix=false)(h2:1≤seekL L ix sub→nearB L[seekL L ix sub - 1]? ix=false):findL L ix sub= -2:=by
 refine zc1 L ix sub 0 (-2) ?_;intro E hE hp;obtain⟨i,hi,e⟩:=List.getElem_of_mem hE;have hi':L[i]? =some E:=by rw[←e];exact List.getElem?_eq_getElem _
 rcases Nat.lt_or_ge i (seekL L ix sub) with hl | hg
 · have hk:seekL L ix sub - 1 < L.length:=by have:=zcx L ix sub;omega
   have hD:=List.getElem?_eq_getElem hk;have h3:=h2 (by omega);have h4:=zcy L ix sub _ _ (show seekL L ix sub - 1 < seekL L ix sub by omega) hD;rw[hD] at h3;generalize L[seekL L ix sub - 1]=D at *
   simp only[nearB,decide_eq_false_iff_not] at h3;unfold befE at h4;rw[zcu] at h4;rcases Nat.lt_or_ge i (seekL L ix sub - 1) with hl2 | hg2
   · have h5:=zc4 L hs i _ E D hi' hD hl2;unfold befE at h5;rw[zcu] at h5;omega
   · rw[show seekL L ix sub - 1=i by omega,hi'] at hD;injection hD with hD
     subst hD;exact h3 hp
 · have hk:seekL L ix sub < L.length:=by omega
   have hD:=List.getElem?_eq_getElem hk;have h4:=zcz L ix sub hs _ _ (Nat.le_refl _) hD;rw[hD] at h1;generalize L[seekL L ix sub]=D at *
   simp only[nearB,decide_eq_false_iff_not] at h1;have h6: ¬(D.ix < ix∨D.ix=ix∧D.sub < sub):=fun hh=>by unfold befE at h4;rw[(zcu _ _ _ _).2 hh] at h4;cases h4
   rcases Nat.lt_or_ge (seekL L ix sub) i with hl2 | hg2
   · have h5:=zc4 L hs _ i D E hD hi' hl2;unfold befE at h5;rw[zcu] at h5;omega
   · rw[show seekL L ix sub=i by omega,hi'] at hD;injection hD with hD
     subst hD;exact h1 hp
end
section
open Go.RowKit
def zeroE:Ent:=⟨0,0,⟨#[]⟩,0,0,false,false,0,0,0,[]⟩
def nearZ (L:List Ent) (k ix:Int):Bool:=decide (0≤k) && nearB L[k.toNat]? ix
def locK (L:List Ent) (ix sub:Int):Nat:=(findL L ix sub).toNat
def hasL (L:List Ent) (ix sub:Int):Bool:=decide (0≤findL L ix sub)
def codeL (L:List Ent) (ix sub:Int):Int:=if 0≤findL L ix sub then 0 else if findL L ix sub= -2 then 100794368 else 101253137
def entK (L:List Ent) (k:Nat):Ent:=L.getD k zeroE
def valK (V:List (List UInt8)) (k:Nat):List UInt8:=V.getD k []
def getC (L:List Ent) (ix sub:Int):Int:=if codeL L ix sub=0 then readE (entK L (locK L ix sub)).acc else codeL L ix sub
def valC (E:Ent) (b:List UInt8):Int:=valueE E.ty E.mx E.lo E.hi b
def mayC (L:List Ent) (ix sub:Int) (b:List UInt8) (any:Bool):Int:=
 if codeL L ix sub=0 then (if any=false∧writeE (entK L (locK L ix sub)).acc≠0 then writeE (entK L (locK L ix sub)).acc else valC (entK L (locK L ix sub)) b) else codeL L ix sub
def putV (L:List Ent) (V:List (List UInt8)) (ix sub:Int) (b:List UInt8) (any:Bool):List (List UInt8):=if mayC L ix sub b any=0 then V.set (locK L ix sub) b else V
theorem zc9 (L:List Ent)(ix sub:Int)(hs:SortedE L) :
 (hereB L[seekL L ix sub]? ix sub=true∧findL L ix sub=(seekL L ix sub:Nat)∧ seekL L ix sub < L.length)∨
 (hereB L[seekL L ix sub]? ix sub=false∧nearZ L (seekL L ix sub:Nat) ix=true∧findL L ix sub= -1)∨
 (hereB L[seekL L ix sub]? ix sub=false∧nearZ L (seekL L ix sub:Nat) ix=false∧nearZ L ((seekL L ix sub:Nat) - 1) ix=true∧findL L ix sub= -1)∨
 (hereB L[seekL L ix sub]? ix sub=false∧nearZ L (seekL L ix sub:Nat) ix=false∧nearZ L ((seekL L ix sub:Nat) - 1) ix=false∧findL L ix sub= -2):=by
 have e1:nearZ L (seekL L ix sub:Nat) ix=nearB L[seekL L ix sub]? ix:=by simp[nearZ]
 have e2:nearZ L ((seekL L ix sub:Nat) - 1) ix=(decide (1≤seekL L ix sub) && nearB L[seekL L ix sub - 1]? ix):=by
  unfold nearZ
  congr 1
  · rw[Bool.eq_iff_iff];simp;omega
  · rw[show (((seekL L ix sub:Nat):Int) - 1).toNat=seekL L ix sub - 1 by omega]
 rw[e1,e2];cases h:hereB L[seekL L ix sub]? ix sub
 · right;cases h1:nearB L[seekL L ix sub]? ix
   · right;cases h2:(decide (1≤seekL L ix sub) && nearB L[seekL L ix sub - 1]? ix)
     · right;refine⟨rfl,rfl,rfl,zc8 L ix sub hs h1 ?_⟩;intro h3
       simpa [h3] using h2
     · left;simp only[Bool.and_eq_true,decide_eq_true_eq] at h2;exact⟨rfl,rfl,rfl,zc7 L ix sub hs h (.inr h2)⟩
   · left;exact⟨rfl,rfl,zc7 L ix sub hs h (.inl h1)⟩
 · left;refine⟨rfl,zc5 L ix sub hs h,?_⟩;rcases Nat.lt_or_ge (seekL L ix sub) L.length with h1 | h1
   · exact h1
   · rw[List.getElem?_eq_none h1] at h;cases h
theorem zda (L:List Ent)(ix sub:Int)(i:Nat)(k:Int)(h:k= -2∨k= -1∨(0≤k∧k < i)):findA L ix sub i k= -2∨findA L ix sub i k= -1∨(0≤findA L ix sub i k∧findA L ix sub i k < i+L.length):=by
 induction L generalizing i k with
 | nil=>simp only[findA,List.length_nil];omega
 | cons D L ih=>
   rw[findA]
   have:=ih (i+1) (if D.ix≠ix then k else if D.sub=sub then (i:Int) else if k= -2 then -1 else k) (by (repeat' split)<;> omega)
   simp only[List.length_cons]
   push_cast at *
   omega
theorem zdb (L:List Ent)(ix sub:Int):findL L ix sub= -2∨findL L ix sub= -1∨(0≤findL L ix sub∧findL L ix sub < L.length):=by
 have:=zda L ix sub 0 (-2) (.inl rfl)
 simpa [findL] using this
theorem zdc {L:List Ent}{ix sub:Int}(h:0≤findL L ix sub):locK L ix sub < L.length:=by
 have:=zdb L ix sub
 unfold locK;omega
theorem zdd {L:List Ent}{ix sub:Int}:codeL L ix sub=0 ↔ 0≤findL L ix sub:=by
 unfold codeL
 (repeat' split)<;> simp_all
def chkE (L:List Ent) (k:Nat):Int:=if rightE (entK L k)≠ 0 then rightE (entK L k) else if 0 < k∧befE (entK L (k - 1)) (entK L k).ix (entK L k).sub=false then 16 else 0
def NewP (L:List Ent) (e at_:Int):Prop:=
 (96 < L.length∧e=3∧at_=96)∨ (L.length≤96∧e≠0∧ ∃k:Nat,k < L.length∧chkE L k=e∧at_=(k:Int)∧ ∀j,j < k→chkE L j=0)∨ (L.length≤96∧e=0∧at_=0∧ ∀j,j < L.length→chkE L j=0)
theorem zde {L:List Ent}{e a e' a':Int}(h:NewP L e a)(h':NewP L e' a'):e=e'∧a=a':=by
 rcases h with ⟨h1,h2,h3⟩ | ⟨h1,h2,k,hk,h3,h4,h5⟩ | ⟨h1,h2,h3,h4⟩<;> rcases h' with ⟨g1,g2,g3⟩ | ⟨g1,g2,j,hj,g3,g4,g5⟩ | ⟨g1,g2,g3,g4⟩
 · exact⟨by rw[h2,g2],by rw[h3,g3]⟩
 · omega
 · omega
 · omega
 · rcases Nat.lt_trichotomy k j with h | h | h
   · have:=g5 k h;rw[this] at h3;exact absurd h3.symm h2
   · subst h;exact⟨by rw[←h3,←g3],by rw[h4,g4]⟩
   · have:=h5 j h;rw[this] at g3;exact absurd g3.symm g2
 · have:=g4 k hk;rw[this] at h3;exact absurd h3.symm h2
 · omega
 · have:=h4 j hj;rw[this] at g3;exact absurd g3.symm g2
 · exact⟨by rw[h2,g2],by rw[h3,g3]⟩
theorem zdf {L:List Ent}{k:Nat}{E:Ent}(h:L[k]? =some E):entK L k=E:=by unfold entK;rw[List.getD_eq_getElem?_getD,h];rfl
theorem zdg {V:List (List UInt8)}{k:Nat}{v:List UInt8}(h:V[k]? =some v):valK V k=v:=by unfold valK;rw[List.getD_eq_getElem?_getD,h];rfl
theorem zdh {L:List Ent}{k:Nat}{E:Ent}(h:L[k]? =some E)(hr:rightE E≠0):chkE L k=rightE E:=by unfold chkE;rw[zdf h,if_pos hr]
theorem zdi {L:List Ent}{k:Nat}{E:Ent}(h:L[k]? =some E)(hr:rightE E=0)(hk:k=0):chkE L k=0:=by unfold chkE;rw[zdf h,if_neg (by rw[hr];simp),if_neg (by omega)]
theorem zdj {L:List Ent}{k:Nat}{E D:Ent}(h:L[k]? =some E)(hD:L[k - 1]? =some D)(hk:1≤k)(hr:rightE E=0):chkE L k=if befE D E.ix E.sub=true then 0 else 16:=by
 unfold chkE;rw[zdf h,zdf hD,if_neg (by rw[hr];simp)];cases befE D E.ix E.sub
 · rw[if_pos ⟨by omega,rfl⟩];rfl
 · rw[if_neg (by rintro⟨_,h⟩;cases h)];rfl
theorem zdk {L:List Ent}{k:Nat}{E:Ent}(h:L[k]? =some E)(hc:chkE L k=0):rightE E=0:=by
 unfold chkE at hc;rw[zdf h] at hc;split at hc
 · exact hc
 · rename_i hh;simpa using hh
theorem zdl:∀(n:Nat) (L:List Ent),n=L.length→(∀j,j < L.length→chkE L j=0)→ SortedE L:=by
 intro n
 induction n with
 | zero=>intro L hL _;obtain rfl:L= []:=List.eq_nil_of_length_eq_zero hL.symm;exact List.Pairwise.nil
 | succ n ih=>
   intro L hL hc;rcases List.eq_nil_or_concat L with rfl | ⟨M,E,rfl⟩
   · simp at hL
   · rw[List.concat_eq_append] at *
     have hM:n=M.length:=by simp at hL;exact hL
     have e0:(M ++ [E])[n]? =some E:=by rw[hM];simp
     refine zcw M E (ih M hM ?_) ?_
     · intro j hj;have h1:=hc j (by simp;omega);unfold chkE entK at h1 ⊢;have e:∀i,i < M.length→(M ++ [E]).getD i zeroE=M.getD i zeroE:=fun i hi=>by rw[List.getD_eq_getElem?_getD,List.getElem?_append_left hi,←List.getD_eq_getElem?_getD]
       rw[e j hj,e (j - 1) (by omega)] at h1;exact h1
     · intro D hD;have h1:=hc n (by simp;omega);have hn:1≤n:=by
        rcases Nat.eq_zero_or_pos n with h | h
        · rw[h] at hM;obtain rfl:M= []:=List.eq_nil_of_length_eq_zero hM.symm;simp at hD
        · exact h
       have hD':(M ++ [E])[n - 1]? =some D:=by
        rw[List.getLast?_eq_getElem?] at hD;rw[List.getElem?_append_left (by omega),hM];exact hD
       rw[zdj e0 hD' hn (zdk e0 h1)] at h1;cases hb:befE D E.ix E.sub
       · rw[hb] at h1;simp at h1
       · rfl
end
section
open Go.RowKit
theorem zdm {L:List Ent}(hs:SortedE L){k:Nat}{E:Ent}(hE:L[k]? =some E):findL L E.ix E.sub=(k:Nat):=by
 obtain⟨hk,e⟩:=List.getElem?_eq_some_iff.1 hE;have hL:L=L.take k ++ E :: L.drop (k+1):=by
  rw[←e]
  simp
 have hM:∀D ∈ L.drop (k+1),¬(D.ix=E.ix∧D.sub=E.sub):=by
  intro D hD hp;obtain⟨j,hj,e2⟩:=List.getElem_of_mem hD;have hj':L[k+1+j]? =some D:=by
   rw[←e2,List.getElem_drop];rw[List.length_drop] at hj;exact List.getElem?_eq_getElem _
  have:=zc4 L hs k (k+1+j) E D hE hj' (by omega)
  unfold befE at this;rw[zcu] at this;omega
 have:=zc3 (L.take k) (L.drop (k+1)) E E.ix E.sub 0 (-2) ⟨rfl,rfl⟩ hM
 unfold findL;rw[←hL,List.length_take] at this;rw[this]
 congr 1
 omega
theorem zdn {L:List Ent}(hs:SortedE L){k:Nat}{E:Ent}{ix sub:Int}(hE:L[k]? =some E)(h:E.ix=ix∧E.sub=sub):locK L ix sub=k∧codeL L ix sub=0:=by
 obtain⟨rfl,rfl⟩:=h
 have:=zdm hs hE
 exact⟨by unfold locK;rw[this];rfl,zdd.2 (by rw[this];omega)⟩
theorem zdo {L:List Ent}(hs:SortedE L){ix sub:Int}(h:codeL L ix sub=0):∃E,L[locK L ix sub]? =some E∧E.ix=ix∧E.sub=sub:=by
 have h0:=zdd.1 h;rcases zc9 L ix sub hs with ⟨h1,h2,h3⟩ | ⟨_,_,h2⟩ | ⟨_,_,_,h2⟩ | ⟨_,_,_,h2⟩
 · have hk:locK L ix sub=seekL L ix sub:=by unfold locK;rw[h2];rfl
   rw[hk];cases hE:L[seekL L ix sub]? with
   | none=>rw[hE] at h1;cases h1
   | some E=>
     rw[hE] at h1;simp only[hereB,Bool.and_eq_true,decide_eq_true_eq] at h1;exact⟨E,rfl,h1.1,h1.2⟩
 all_goals omega
theorem zdp {L:List Ent}{ix sub:Int}{b:List UInt8}{any:Bool}(h:mayC L ix sub b any=0):codeL L ix sub=0:=by
 unfold mayC at h;split at h
 · assumption
 · exact h
theorem zdq {L:List Ent}(hs:SortedE L){V:List (List UInt8)}(hV:V.length=L.length){k:Nat}{E:Ent}(hE:L[k]? =some E)(ix sub:Int)(b:List UInt8)(any:Bool) :
 (putV L V ix sub b any)[k]? =if E.ix=ix∧E.sub=sub∧mayC L ix sub b any=0 then some b else V[k]? :=by
 unfold putV;have hk:k < V.length:=by rw[hV];exact (List.getElem?_eq_some_iff.1 hE).1
 by_cases hm:mayC L ix sub b any=0
 · rw[if_pos hm];by_cases hp:E.ix=ix∧E.sub=sub
   · rw[if_pos ⟨hp.1,hp.2,hm⟩,(zdn hs hE hp).1,List.getElem?_set_self hk]
   · rw[if_neg (fun h=>hp ⟨h.1,h.2.1⟩),List.getElem?_set_ne];intro he;obtain⟨D,hD,h1,h2⟩:=zdo hs (zdp hm);rw[he,hE] at hD;injection hD with hD
     subst hD;exact hp ⟨h1,h2⟩
 · rw[if_neg hm,if_neg (fun h=>hm h.2.2)]
theorem zdr {L:List Ent}{ix sub:Int}(h:0≤findL L ix sub):∃k:Nat,findL L ix sub=(k:Int)∧ locK L ix sub=k∧k < L.length:=by
 obtain⟨k,hk⟩:=Int.eq_ofNat_of_zero_le h
 have:=zdc h
 refine⟨k,hk,by unfold locK;rw[hk];rfl,?_⟩;unfold locK at this;rw[hk] at this;exact this
end
end
end
end Go.Proofs.YtkkpjbjmhaecjaaGreat
