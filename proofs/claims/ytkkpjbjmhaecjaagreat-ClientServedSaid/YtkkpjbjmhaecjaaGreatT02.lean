/- None -/
import Derived.Test.YtkkpjbjmhaecjaaGreatT01
namespace Go.Proofs.YtkkpjbjmhaecjaaGreat
set_option linter.all false
section
section
section
open Go.RowKit
def tySize (t:Int):Int:=if t=1 then 1 else if t=2 then 1 else if t=5 then 1 else if t=3 then 2 else if t=6 then 2 else if t=4 then 4 else if t=7 then 4 else if t=21 then 8 else 0
def tyBits (t:Int):Int:=if t=1 then 1 else 8 * tySize t
def tySigned (t:Int):Bool:=decide (t=2) || decide (t=3) || decide (t=4) || decide (t=21)
def tyKnown (t:Int):Bool:=decide (t=1) || decide (t=2) || decide (t=3) || decide (t=4) || decide (t=5) || decide (t=6) || decide (t=7) || decide (t=9) || decide (t=10) || decide (t=15) || decide (t=21)
def tyHigh (t:Int):Int:=if t=1 then 1 else if t=2 then 127 else if t=3 then 32767 else if t=4 then 2147483647 else if t=5 then 255 else if t=6 then 65535 else if t=7 then 4294967295 else if t=21 then 9223372036854775807 else 0
def tyLow (t:Int):Int:=if tySigned t=true then - tyHigh t - 1 else 0
def tyNum (t:Int):Bool:=decide (tyBits t≠0)
theorem zav (t:Int):t=1∨t=2∨t=3∨t=4∨t=5∨t=6∨t=7∨t=9∨t=10∨t=15∨t=21∨(t≠1∧t≠2∧t≠3∧t≠4∧t≠5∧t≠6∧t≠7∧t≠9∧t≠10∧t≠15∧t≠21):=by omega
theorem zaw (t:Int)(h:tyBits t≠0):t=1∨t=2∨t=3∨t=4∨t=5∨t=6∨t=7∨t=21:=by
 rcases zav t with rfl | rfl | rfl | rfl | rfl | rfl | rfl | rfl | rfl | rfl | rfl | ⟨h1,h2,h3,h4,h5,h6,h7,h9,h10,h15,h21⟩<;> simp_all [tyBits,tySize]
theorem zax {t:Int}(h:t≠1∧t≠2∧t≠3∧t≠4∧t≠5∧t≠6∧t≠7∧t≠9∧t≠10∧t≠15∧t≠21):tySize t=0∧tyBits t=0∧tySigned t=false∧tyKnown t=false∧tyHigh t=0∧tyLow t=0:=by
 obtain⟨h1,h2,h3,h4,h5,h6,h7,h9,h10,h15,h21⟩:=h;simp[tySize,tyBits,tySigned,tyKnown,tyHigh,tyLow,h1,h2,h3,h4,h5,h6,h7,h9,h10,h15,h21]
def sgnN (s:Int) (n:Nat):Int:=if s=1 then (if n < 128 then (n:Int) else (n:Int) - 256) else if s=2 then (if n < 32768 then (n:Int) else (n:Int) - 65536) else
 if s=4 then (if n < 2147483648 then (n:Int) else (n:Int) - 4294967296) else (if n < 9223372036854775808 then (n:Int) else (n:Int) - 18446744073709551616)
def decV (t:Int) (l:List UInt8):Int:=if tyBits t=0 then 0 else if (l.length:Int) < tySize t then 0 else if tySize t < (l.length:Int) then 0 else
 if tySigned t=true then sgnN (tySize t) (leN l) else if t=1∧1 < leN l then 0 else (leN l:Int)
def decE (t:Int) (l:List UInt8):Int:=if tyBits t=0 then 15 else if (l.length:Int) < tySize t then 2 else if tySize t < (l.length:Int) then 3 else
 if tySigned t=true then 0 else if t=1∧1 < leN l then 9 else 0
def printB (l:List UInt8):Bool:=l.all fun c=>decide (32≤c.toNat) && decide (c.toNat≤126)
def checkE (t most:Int) (l:List UInt8):Int:=if tyKnown t=false then 15 else if 0 < tyBits t then decE t l else if most < (l.length:Int)∨ 256 < l.length then 3 else if t=9∧printB l=false then 4 else 0
def valueE (t mx lo hi:Int) (l:List UInt8):Int:=
 if tyKnown t=false then 100925511 else
 if 0 < tyBits t then (if decE t l=2 then 101122067 else if decE t l=3 then 101122066 else if decE t l≠0 then 101253168 else if decV t l < lo then 101253170 else if hi < decV t l then 101253169 else 0)
 else if checkE t mx l=3 then 101122066 else if checkE t mx l=4 then 101253168 else 0
theorem zay (t mx:Int)(l:List UInt8)(h0: ¬ 0 < tyBits t)(hk:tyKnown t=true):checkE t mx l=3∨checkE t mx l=4∨checkE t mx l=0:=by
 unfold checkE;rw[if_neg (by rw[hk];decide),if_neg h0];split
 · exact .inl rfl
 · split
   · exact .inr (.inl rfl)
   · exact .inr (.inr rfl)
theorem zaz {t:Int}(h:tyBits t≠0):tyKnown t=true:=by
 rcases zaw t h with rfl | rfl | rfl | rfl | rfl | rfl | rfl | rfl<;>rfl
theorem za0 (n:Nat)(h:n < 256):wrap64 (IntKind.u64.wrap ((n:Int) * 72057594037927936)) / 72057594037927936=sgnN 1 n:=by
 unfold wrap64;rw[IntKind.wrap_u64];simp[sgnN];split<;>omega
theorem za1 (n:Nat)(h:n < 65536):wrap64 (IntKind.u64.wrap ((n:Int) * 281474976710656)) / 281474976710656=sgnN 2 n:=by
 unfold wrap64;rw[IntKind.wrap_u64];simp[sgnN];split<;>omega
theorem za2 (n:Nat)(h:n < 4294967296):wrap64 (IntKind.u64.wrap ((n:Int) * 4294967296)) / 4294967296=sgnN 4 n:=by
 unfold wrap64;rw[IntKind.wrap_u64];simp[sgnN];split<;>omega
def Wd (wd:Int):Prop:=wd=1∨wd=2∨wd=4∨wd=8
theorem za3 {t:Int}(l:List UInt8)(h:tyBits t=0):decV t l=0∧decE t l=15:=by simp[decV,decE,h]
theorem za4 {t:Int}(l:List UInt8)(h:tyBits t≠0)(h1:(l.length:Int) < tySize t):decV t l=0∧decE t l=2:=by simp[decV,decE,h,h1]
theorem za5 {t:Int}(l:List UInt8)(h:tyBits t≠0)(h1:tySize t < (l.length:Int)):decV t l=0∧decE t l=3:=by
 have: ¬(l.length:Int) < tySize t:=by omega
 simp[decV,decE,h,h1,this]
theorem za6 {t:Int}(l:List UInt8)(h:tyBits t≠0)(h1:tySize t=(l.length:Int))(hs:tySigned t=true):decV t l=sgnN (tySize t) (leN l)∧ decE t l=0:=by
 simp[decV,decE,h,h1,hs]
theorem za7 {t:Int}(l:List UInt8)(h:tyBits t≠0)(h1:tySize t=(l.length:Int))(hs:tySigned t=false):decV t l=(if t=1∧1 < leN l then 0 else (leN l:Int))∧ decE t l=(if t=1∧1 < leN l then 9 else 0):=by
 simp[decV,decE,h,h1,hs]
theorem ty_wd {t:Int}(h:tyBits t≠0):Wd (tySize t):=by
 rcases zaw t h with rfl | rfl | rfl | rfl | rfl | rfl | rfl | rfl
 all_goals (unfold Wd;decide)
theorem za8 {t:Int}(h:tyBits t≠0)(hs:tySigned t=false):t=1∨t=5∨t=6∨t=7:=by
 rcases zaw t h with rfl | rfl | rfl | rfl | rfl | rfl | rfl | rfl
 all_goals first | omega | exact absurd hs (by decide)
theorem za9 (l:List UInt8)(k:Nat)(h:k < l.length)(hb: ¬(32≤(l[k]).toNat∧(l[k]).toNat≤126)):printB l=false:=by
 simp only[printB,List.all_eq_false];exact⟨l[k],List.getElem_mem h,by simp;omega⟩
theorem zba (l:List UInt8)(h:∀k (hk:k < l.length),32≤(l[k]).toNat∧(l[k]).toNat≤126):printB l=true:=by
 simp only[printB,List.all_eq_true];intro x hx;obtain⟨k,hk,rfl⟩:=List.getElem_of_mem hx
 have:=h k hk
 simp[this.1,this.2]
end
section
open Go.RowKit
structure Ent where
 ix:Int
 sub:Int
 nm:ByteArray
 ty:Int
 acc:Int
 mp:Bool
 st:Bool
 mx:Int
 lo:Int
 hi:Int
 df:List UInt8
def entV (E:Ent) (A:Option Addr) (n c:Nat):Array Value:=#[.int .i64 E.ix,.int .i64 E.sub,.string E.nm,.int .i64 E.ty,.int .i64 E.acc,.bool E.mp,.bool E.st,.int .i64 E.mx,.int .i64 E.lo,.int .i64 E.hi,.slice A n c]
def letterB (c:Nat):Bool:=decide (97≤c) && decide (c≤122)
def innerB (c:Nat):Bool:=letterB c || (decide (48≤c) && decide (c≤57)) || decide (c=95)
def nameB (s:ByteArray):Bool:=decide (s.size≠0) && decide (s.size≤16) && letterB (s.data.toList.headD 0).toNat && s.data.toList.all fun c=>innerB c.toNat
def flagsB (acc:Int) (st mp:Bool):Bool:=if acc=1 then (!st && !mp) else if acc=2 then !st else decide (acc=3) || decide (acc=4)
def numberedB (t mx lo hi:Int):Bool:=decide (mx=0) && decide (tyLow t≤lo) && decide (lo≤hi) && decide (hi≤tyHigh t)
def sizedB (mp:Bool) (mx lo hi:Int):Bool:=decide (lo=0) && decide (hi=0) && decide (1≤mx) && decide (mx≤256) && !mp
def limitsB (t:Int) (mp:Bool) (mx lo hi:Int):Bool:=if tyNum t=true then numberedB t mx lo hi else sizedB mp mx lo hi
def placeB (ix sub:Int):Bool:=decide (1≤ix) && decide (ix≤65535) && decide (0≤sub) && decide (sub≤255)
def rightE (E:Ent):Int:=if placeB E.ix E.sub=false then 9 else if nameB E.nm=false then 14 else if tyKnown E.ty=false then 15 else
 if flagsB E.acc E.st E.mp=false then 1 else if limitsB E.ty E.mp E.mx E.lo E.hi=false then 1 else if valueE E.ty E.mx E.lo E.hi E.df≠0 then 4 else 0
def readE (acc:Int):Int:=if acc=3 then 100728833 else 0
def writeE (acc:Int):Int:=if acc=1∨acc=2 then 100728834 else 0
def beforeB (a b c d:Int):Bool:=decide (a < c∨a=c∧b < d)
theorem zbc (s:ByteArray)(k:Nat)(h:k < s.size):s.data.toList[k]'(by simpa using h)=s[k]:=rfl
theorem zbd (s:ByteArray)(k:Nat)(h:k < s.size)(hb:innerB (s[k]).toNat=false):nameB s=false:=by
 have:(s.data.toList.all fun c=>innerB c.toNat)=false:=by
  rw[List.all_eq_false];exact⟨s[k],by rw[←zbc s k h];exact List.getElem_mem _,by rw[hb];decide⟩
 simp[nameB,this]
theorem zbe (s:ByteArray)(h:∀k (hk:k < s.size),innerB (s[k]).toNat=true):(s.data.toList.all fun c=>innerB c.toNat)=true:=by
 rw[List.all_eq_true];intro x hx;obtain⟨k,hk,rfl⟩:=List.getElem_of_mem hx;exact h k (by simpa using hk)
theorem zbf (s:ByteArray)(h:0 < s.size):s.data.toList.headD 0=s[0]:=by
 have h1:=zbc s 0 h;cases hs:s.data.toList with
 | nil=>have h2:s.data.toList.length=0:=by rw[hs];rfl
        have h3:s.size=s.data.toList.length:=by simp
        omega
 | cons a l=>simp[hs] at h1;simp[←h1]
end
end
section
section
open Go.RowKit
def befE (E:Ent) (ix sub:Int):Bool:=beforeB E.ix E.sub ix sub
def SortedE (L:List Ent):Prop:=L.Pairwise fun a b=>befE a b.ix b.sub=true
theorem zbg (a b c d:Int):beforeB a b c d=true ↔ (a < c∨a=c∧b < d):=by unfold beforeB;exact decide_eq_true_iff
theorem zbh (a b c d e f:Int)(h:beforeB a b c d=true)(k:beforeB c d e f=true):beforeB a b e f=true:=by
 rw[zbg] at *
 omega
theorem zbi (L:List Ent)(E:Ent)(h:SortedE L)(hl:∀D,L.getLast? =some D→befE D E.ix E.sub=true):SortedE (L ++ [E]):=by
 unfold SortedE at *
 rw[List.pairwise_append];refine⟨h,List.pairwise_singleton _ _,?_⟩;intro a ha b hb;rw[List.mem_singleton] at hb;subst hb;rcases List.eq_nil_or_concat L with rfl | ⟨M,D,rfl⟩
 · cases ha
 · have hD:=hl D (by simp);rw[List.concat_eq_append] at *
   rw[List.mem_append,List.mem_singleton] at ha;rcases ha with ha | rfl
   · have:=(List.pairwise_append.1 h).2.2 a ha D (by simp)
     exact zbh _ _ _ _ _ _ this hD
   · exact hD
def seekL (L:List Ent) (ix sub:Int):Nat:=(L.takeWhile fun E=>befE E ix sub).length
theorem zbj (L:List Ent)(ix sub:Int):seekL L ix sub≤L.length:=by
 unfold seekL;exact (List.takeWhile_prefix _).length_le
theorem zbk (L:List Ent)(ix sub:Int)(i:Nat)(E:Ent)(hi:i < seekL L ix sub)(hE:L[i]? =some E):befE E ix sub=true:=by
 induction L generalizing i with
 | nil=>simp at hE
 | cons D L ih=>
   unfold seekL at hi;rw[List.takeWhile_cons] at hi;split at hi
   · rename_i hD;cases i with
     | zero=>simp at hE;subst hE;exact hD
     | succ i=>exact ih i (by unfold seekL;simpa using hi) (by simpa using hE)
   · simp at hi
theorem zbl (L:List Ent)(ix sub:Int)(hs:SortedE L)(i:Nat)(E:Ent)(hi:seekL L ix sub≤i)(hE:L[i]? =some E):befE E ix sub=false:=by
 induction L generalizing i with
 | nil=>simp at hE
 | cons D L ih=>
   unfold SortedE at hs;rw[List.pairwise_cons] at hs;unfold seekL at hi;rw[List.takeWhile_cons] at hi;split at hi
   · rename_i hD;cases i with
     | zero=>simp at hi
     | succ i=>exact ih hs.2 i (by unfold seekL;simpa using hi) (by simpa using hE)
   · rename_i hD;cases i with
     | zero=>simp at hE;subst hE;simpa using hD
     | succ i=>
       have hm:E ∈ L:=List.mem_of_getElem? (by simpa using hE);have h1:=hs.1 E hm;cases hb:befE E ix sub
       · rfl
       · exact absurd (zbh _ _ _ _ _ _ h1 hb) (by simpa [befE] using hD)
theorem zbm (L:List Ent)(ix sub:Int)(hs:SortedE L)(m:Nat)(E:Ent)(hE:L[m]? =some E):befE E ix sub=decide (m < seekL L ix sub):=by
 rcases Nat.lt_or_ge m (seekL L ix sub) with h | h
 · rw[zbk L ix sub m E h hE,decide_eq_true h]
 · rw[zbl L ix sub hs m E h hE,decide_eq_false (by omega)]
def findA:List Ent→Int→Int→Nat→Int→Int
 | [],_,_,_,k=>k
 | E :: L,ix,sub,i,k=>findA L ix sub (i+1) (if E.ix≠ix then k else if E.sub=sub then (i:Int) else if k= -2 then -1 else k)
def findL (L:List Ent) (ix sub:Int):Int:=findA L ix sub 0 (-2)
theorem zbn (L:List Ent)(ix sub:Int)(i:Nat)(k:Int)(h:∀E ∈ L,E.ix≠ix):findA L ix sub i k=k:=by
 induction L generalizing i k with
 | nil=>rfl
 | cons D L ih=>
   rw[findA,if_pos (h D (by simp))];exact ih _ _ (fun E hE=>h E (by simp[hE]))
theorem zbo (L:List Ent)(ix sub:Int)(i:Nat)(k:Int)(h:∀E ∈ L,¬(E.ix=ix∧E.sub=sub)):findA L ix sub i k=if k= -2∧(∃E ∈ L,E.ix=ix) then -1 else k:=by
 induction L generalizing i k with
 | nil=>simp[findA]
 | cons D L ih=>
   have hr:=fun k'=>ih (i+1) k' (fun E hE=>h E (by simp[hE]))
   rw[findA,hr];by_cases hD:D.ix=ix
   · have hs:D.sub≠sub:=fun e=>h D (by simp) ⟨hD,e⟩
     rw[if_neg (show ¬D.ix≠ix from fun h=>h hD),if_neg hs];by_cases hk:k= -2
     · subst hk;simp[hD]
     · simp[hk]
   · rw[if_pos hD]
     have:(∃E ∈ D :: L,E.ix=ix) ↔ (∃E ∈ L,E.ix=ix):=by
      constructor
      · rintro⟨E,hE,e⟩;rcases List.mem_cons.1 hE with rfl | hE
        · exact absurd e hD
        · exact⟨E,hE,e⟩
      · rintro⟨E,hE,e⟩;exact⟨E,by simp[hE],e⟩
     simp only[this]
theorem zbp (L M:List Ent)(E:Ent)(ix sub:Int)(i:Nat)(k:Int)(hE:E.ix=ix∧E.sub=sub)(hM:∀D ∈ M,¬(D.ix=ix∧D.sub=sub)):findA (L ++ E :: M) ix sub i k=((i+L.length:Nat):Int):=by
 induction L generalizing i k with
 | nil=>
   rw[List.nil_append,findA,if_neg (show ¬E.ix≠ix from fun h=>h hE.1),if_pos hE.2,zbo M ix sub _ _ hM];rw[if_neg (by rintro⟨h,_⟩;omega)]
   rfl
 | cons D L ih=>
   rw[List.cons_append,findA,ih];simp only[List.length_cons]
   congr 1
   omega
theorem zbq (L:List Ent)(hs:SortedE L)(i j:Nat)(E D:Ent)(hi:L[i]? =some E)(hj:L[j]? =some D)(hij:i < j):befE E D.ix D.sub=true:=by
 obtain⟨h1,e1⟩:=List.getElem?_eq_some_iff.1 hi;obtain⟨h2,e2⟩:=List.getElem?_eq_some_iff.1 hj
 have:=List.pairwise_iff_getElem.1 hs i j h1 h2 hij
 rw[e1,e2] at this;exact this
def hereB (o:Option Ent) (ix sub:Int):Bool:=match o with | some E=>decide (E.ix=ix) && decide (E.sub=sub) | none=>false
def nearB (o:Option Ent) (ix:Int):Bool:=match o with | some E=>decide (E.ix=ix) | none=>false
theorem zbr (L:List Ent)(ix sub:Int)(hs:SortedE L)(h:hereB L[seekL L ix sub]? ix sub=true):findL L ix sub=(seekL L ix sub:Nat):=by
 cases hk:L[seekL L ix sub]? with
 | none=>rw[hk] at h;cases h
 | some E=>
   rw[hk] at h;simp only[hereB,Bool.and_eq_true,decide_eq_true_iff] at h;obtain⟨h1,e1⟩:=List.getElem?_eq_some_iff.1 hk;generalize seekL L ix sub=k at *
   have hL:L=L.take k ++ E :: L.drop (k+1):=by
    rw[←e1]
    simp
   have hM:∀D ∈ L.drop (k+1),¬(D.ix=ix∧D.sub=sub):=by
    intro D hD hp;obtain⟨j,hj,e⟩:=List.getElem_of_mem hD;have hj':L[k+1+j]? =some D:=by
     rw[←e,List.getElem_drop];rw[List.length_drop] at hj;exact List.getElem?_eq_getElem _
    have:=zbq L hs k (k+1+j) E D hk hj' (by omega)
    unfold befE at this;rw[zbg] at this;omega
   have:=zbp (L.take k) (L.drop (k+1)) E ix sub 0 (-2) h hM
   unfold findL;rw[←hL,List.length_take] at this;rw[this]
   congr 1
   omega
theorem zbs (L:List Ent)(ix sub:Int)(hs:SortedE L)(h:hereB L[seekL L ix sub]? ix sub=false):∀E ∈ L,¬(E.ix=ix∧E.sub=sub):=by
 intro E hE hp;obtain⟨i,hi,e⟩:=List.getElem_of_mem hE;have hi':L[i]? =some E:=by rw[←e];exact List.getElem?_eq_getElem _
 have hge:seekL L ix sub≤i:=by
  rcases Nat.lt_or_ge i (seekL L ix sub) with hl | hg
  · have:=zbk L ix sub i E hl hi'
    unfold befE at this;rw[zbg] at this;omega
  · exact hg
 have hk:seekL L ix sub < L.length:=by omega
 have hD:=List.getElem?_eq_getElem hk;rw[hD] at h;have h1:=zbl L ix sub hs _ _ (Nat.le_refl _) hD;generalize hDD:L[seekL L ix sub]=D at *
 simp only[hereB] at h;rcases Nat.lt_or_ge (seekL L ix sub) i with hl | hg
 · have h2:=zbq L hs _ i D E hD hi' hl;unfold befE at h1 h2;rw[zbg] at h2;have h3: ¬(D.ix < ix∨D.ix=ix∧D.sub < sub):=fun hh=>by rw[(zbg _ _ _ _).2 hh] at h1;cases h1
   omega
 · have hei:seekL L ix sub=i:=by omega
   rw[hei,hi'] at hD;injection hD with hD
   subst hD;simp[hp.1,hp.2] at h
theorem zbt (L:List Ent)(ix sub:Int)(hs:SortedE L)(h:hereB L[seekL L ix sub]? ix sub=false)(hn:nearB L[seekL L ix sub]? ix=true∨(1≤seekL L ix sub∧nearB L[seekL L ix sub - 1]? ix=true)):findL L ix sub= -1:=by
 unfold findL;rw[zbo L ix sub 0 (-2) (zbs L ix sub hs h),if_pos];refine⟨rfl,?_⟩;rcases hn with hn | ⟨_,hn⟩
 · cases hk:L[seekL L ix sub]? with
   | none=>rw[hk] at hn;cases hn
   | some E=>rw[hk] at hn;exact⟨E,List.mem_of_getElem? hk,by simpa [nearB] using hn⟩
 · cases hk:L[seekL L ix sub - 1]? with
   | none=>rw[hk] at hn;cases hn
   | some E=>rw[hk] at hn;exact⟨E,List.mem_of_getElem? hk,by simpa [nearB] using hn⟩
theorem zbu (L:List Ent)(ix sub:Int)(hs:SortedE L)(h1:nearB L[seekL L ix sub]? ix=false)(h2:1≤seekL L ix sub→nearB L[seekL L ix sub - 1]? ix=false):findL L ix sub= -2:=by
 refine zbn L ix sub 0 (-2) ?_;intro E hE hp;obtain⟨i,hi,e⟩:=List.getElem_of_mem hE;have hi':L[i]? =some E:=by rw[←e];exact List.getElem?_eq_getElem _
 rcases Nat.lt_or_ge i (seekL L ix sub) with hl | hg
 · have hk:seekL L ix sub - 1 < L.length:=by have:=zbj L ix sub;omega
   have hD:=List.getElem?_eq_getElem hk;have h3:=h2 (by omega);have h4:=zbk L ix sub _ _ (show seekL L ix sub - 1 < seekL L ix sub by omega) hD;rw[hD] at h3;generalize L[seekL L ix sub - 1]=D at *
   simp only[nearB,decide_eq_false_iff_not] at h3;unfold befE at h4;rw[zbg] at h4;rcases Nat.lt_or_ge i (seekL L ix sub - 1) with hl2 | hg2
   · have h5:=zbq L hs i _ E D hi' hD hl2;unfold befE at h5;rw[zbg] at h5;omega
   · rw[show seekL L ix sub - 1=i by omega,hi'] at hD;injection hD with hD
     subst hD;exact h3 hp
 · have hk:seekL L ix sub < L.length:=by omega
   have hD:=List.getElem?_eq_getElem hk;have h4:=zbl L ix sub hs _ _ (Nat.le_refl _) hD;rw[hD] at h1;generalize L[seekL L ix sub]=D at *
   simp only[nearB,decide_eq_false_iff_not] at h1;have h6: ¬(D.ix < ix∨D.ix=ix∧D.sub < sub):=fun hh=>by unfold befE at h4;rw[(zbg _ _ _ _).2 hh] at h4;cases h4
   rcases Nat.lt_or_ge (seekL L ix sub) i with hl2 | hg2
   · have h5:=zbq L hs _ i D E hD hi' hl2;unfold befE at h5;rw[zbg] at h5;omega
   · rw[show seekL L ix sub=i by omega,hi'] at hD;injection hD with hD
     subst hD;exact h1 hp
end
section
open Go.RowKit
def zeroE:Ent:=⟨0,0,⟨#[]⟩,0,0,false,false,0,0,0,[]⟩
def nearZ (L:List Ent) (k ix:Int):Bool:=decide (0≤k) && nearB L[k.toNat]? ix
def locK (L:List Ent) (ix sub:Int):Nat:=(findL L ix sub).toNat
def hasL (L:List Ent) (ix sub:Int):Bool:=decide (0≤findL L ix sub)
def codeL (L:List Ent) (ix sub:Int):Int:=if 0≤findL L ix sub then 0 else if findL L ix sub= -2 then 100794368 else 101253137
def entK (L:List Ent) (k:Nat):Ent:=L.getD k zeroE
def valK (V:List (List UInt8)) (k:Nat):List UInt8:=V.getD k []
def getC (L:List Ent) (ix sub:Int):Int:=if codeL L ix sub=0 then readE (entK L (locK L ix sub)).acc else codeL L ix sub
def valC (E:Ent) (b:List UInt8):Int:=valueE E.ty E.mx E.lo E.hi b
def mayC (L:List Ent) (ix sub:Int) (b:List UInt8) (any:Bool):Int:=
 if codeL L ix sub=0 then (if any=false∧writeE (entK L (locK L ix sub)).acc≠0 then writeE (entK L (locK L ix sub)).acc else valC (entK L (locK L ix sub)) b) else codeL L ix sub
def putV (L:List Ent) (V:List (List UInt8)) (ix sub:Int) (b:List UInt8) (any:Bool):List (List UInt8):=if mayC L ix sub b any=0 then V.set (locK L ix sub) b else V
theorem zbv (L:List Ent)(ix sub:Int)(hs:SortedE L) :
 (hereB L[seekL L ix sub]? ix sub=true∧findL L ix sub=(seekL L ix sub:Nat)∧ seekL L ix sub < L.length)∨
 (hereB L[seekL L ix sub]? ix sub=false∧nearZ L (seekL L ix sub:Nat) ix=true∧findL L ix sub= -1)∨
 (hereB L[seekL L ix sub]? ix sub=false∧nearZ L (seekL L ix sub:Nat) ix=false∧nearZ L ((seekL L ix sub:Nat) - 1) ix=true∧findL L ix sub= -1)∨
 (hereB L[seekL L ix sub]? ix sub=false∧nearZ L (seekL L ix sub:Nat) ix=false∧nearZ L ((seekL L ix sub:Nat) - 1) ix=false∧findL L ix sub= -2):=by
 have e1:nearZ L (seekL L ix sub:Nat) ix=nearB L[seekL L ix sub]? ix:=by simp[nearZ]
 have e2:nearZ L ((seekL L ix sub:Nat) - 1) ix=(decide (1≤seekL L ix sub) && nearB L[seekL L ix sub - 1]? ix):=by
  unfold nearZ
  congr 1
  · rw[Bool.eq_iff_iff];simp;omega
  · rw[show (((seekL L ix sub:Nat):Int) - 1).toNat=seekL L ix sub - 1 by omega]
 rw[e1,e2];cases h:hereB L[seekL L ix sub]? ix sub
 · right;cases h1:nearB L[seekL L ix sub]? ix
   · right;cases h2:(decide (1≤seekL L ix sub) && nearB L[seekL L ix sub - 1]? ix)
     · right;refine⟨rfl,rfl,rfl,zbu L ix sub hs h1 ?_⟩;intro h3
       simpa [h3] using h2
     · left;simp only[Bool.and_eq_true,decide_eq_true_eq] at h2;exact⟨rfl,rfl,rfl,zbt L ix sub hs h (.inr h2)⟩
   · left;exact⟨rfl,rfl,zbt L ix sub hs h (.inl h1)⟩
 · left;refine⟨rfl,zbr L ix sub hs h,?_⟩;rcases Nat.lt_or_ge (seekL L ix sub) L.length with h1 | h1
   · exact h1
   · rw[List.getElem?_eq_none h1] at h;cases h
theorem zbw (L:List Ent)(ix sub:Int)(i:Nat)(k:Int)(h:k= -2∨k= -1∨(0≤k∧k < i)):findA L ix sub i k= -2∨findA L ix sub i k= -1∨(0≤findA L ix sub i k∧findA L ix sub i k < i+L.length):=by
 induction L generalizing i k with
 | nil=>simp only[findA,List.length_nil];omega
 | cons D L ih=>
   rw[findA]
   have:=ih (i+1) (if D.ix≠ix then k else if D.sub=sub then (i:Int) else if k= -2 then -1 else k) (by (repeat' split)<;> omega)
   simp only[List.length_cons]
   push_cast at *
   omega
theorem zbx (L:List Ent)(ix sub:Int):findL L ix sub= -2∨findL L ix sub= -1∨(0≤findL L ix sub∧findL L ix sub < L.length):=by
 have:=zbw L ix sub 0 (-2) (.inl rfl)
 simpa [findL] using this
theorem zby {L:List Ent}{ix sub:Int}(h:0≤findL L ix sub):locK L ix sub < L.length:=by
 have:=zbx L ix sub
 unfold locK;omega
theorem zbz {L:List Ent}{ix sub:Int}:codeL L ix sub=0 ↔ 0≤findL L ix sub:=by
 unfold codeL
 (repeat' split)<;> simp_all
theorem zb0 (L:List Ent)(V:List (List UInt8))(ix sub:Int)(b:List UInt8)(any:Bool):(putV L V ix sub b any).length=V.length:=by
 unfold putV;split<;>simp
def chkE (L:List Ent) (k:Nat):Int:=if rightE (entK L k)≠ 0 then rightE (entK L k) else if 0 < k∧befE (entK L (k - 1)) (entK L k).ix (entK L k).sub=false then 16 else 0
def NewP (L:List Ent) (e at_:Int):Prop:=
 (96 < L.length∧e=3∧at_=96)∨ (L.length≤96∧e≠0∧ ∃k:Nat,k < L.length∧chkE L k=e∧at_=(k:Int)∧ ∀j,j < k→chkE L j=0)∨ (L.length≤96∧e=0∧at_=0∧ ∀j,j < L.length→chkE L j=0)
theorem zb2 {L:List Ent}{k:Nat}{E:Ent}(h:L[k]? =some E):entK L k=E:=by unfold entK;rw[List.getD_eq_getElem?_getD,h];rfl
theorem zb3 {V:List (List UInt8)}{k:Nat}{v:List UInt8}(h:V[k]? =some v):valK V k=v:=by unfold valK;rw[List.getD_eq_getElem?_getD,h];rfl
theorem zb4 {L:List Ent}{k:Nat}{E:Ent}(h:L[k]? =some E)(hr:rightE E≠0):chkE L k=rightE E:=by unfold chkE;rw[zb2 h,if_pos hr]
theorem zb5 {L:List Ent}{k:Nat}{E:Ent}(h:L[k]? =some E)(hr:rightE E=0)(hk:k=0):chkE L k=0:=by unfold chkE;rw[zb2 h,if_neg (by rw[hr];simp),if_neg (by omega)]
theorem zb6 {L:List Ent}{k:Nat}{E D:Ent}(h:L[k]? =some E)(hD:L[k - 1]? =some D)(hk:1≤k)(hr:rightE E=0):chkE L k=if befE D E.ix E.sub=true then 0 else 16:=by
 unfold chkE;rw[zb2 h,zb2 hD,if_neg (by rw[hr];simp)];cases befE D E.ix E.sub
 · rw[if_pos ⟨by omega,rfl⟩];rfl
 · rw[if_neg (by rintro⟨_,h⟩;cases h)];rfl
theorem zb7 {L:List Ent}{k:Nat}{E:Ent}(h:L[k]? =some E)(hc:chkE L k=0):rightE E=0:=by
 unfold chkE at hc;rw[zb2 h] at hc;split at hc
 · exact hc
 · rename_i hh;simpa using hh
theorem zb8:∀(n:Nat) (L:List Ent),n=L.length→(∀j,j < L.length→chkE L j=0)→ SortedE L:=by
 intro n
 induction n with
 | zero=>intro L hL _;obtain rfl:L= []:=List.eq_nil_of_length_eq_zero hL.symm;exact List.Pairwise.nil
 | succ n ih=>
   intro L hL hc;rcases List.eq_nil_or_concat L with rfl | ⟨M,E,rfl⟩
   · simp at hL
   · rw[List.concat_eq_append] at *
     have hM:n=M.length:=by simp at hL;exact hL
     have e0:(M ++ [E])[n]? =some E:=by rw[hM];simp
     refine zbi M E (ih M hM ?_) ?_
     · intro j hj;have h1:=hc j (by simp;omega);unfold chkE entK at h1 ⊢;have e:∀i,i < M.length→(M ++ [E]).getD i zeroE=M.getD i zeroE:=fun i hi=>by rw[List.getD_eq_getElem?_getD,List.getElem?_append_left hi,←List.getD_eq_getElem?_getD]
       rw[e j hj,e (j - 1) (by omega)] at h1;exact h1
     · intro D hD;have h1:=hc n (by simp;omega);have hn:1≤n:=by
        rcases Nat.eq_zero_or_pos n with h | h
        · rw[h] at hM;obtain rfl:M= []:=List.eq_nil_of_length_eq_zero hM.symm;simp at hD
        · exact h
       have hD':(M ++ [E])[n - 1]? =some D:=by
        rw[List.getLast?_eq_getElem?] at hD;rw[List.getElem?_append_left (by omega),hM];exact hD
       rw[zb6 e0 hD' hn (zb7 e0 h1)] at h1;cases hb:befE D E.ix E.sub
       · rw[hb] at h1;simp at h1
       · rfl
end
section
open Go.RowKit
theorem zb9 {L:List Ent}(hs:SortedE L){k:Nat}{E:Ent}(hE:L[k]? =some E):findL L E.ix E.sub=(k:Nat):=by
 obtain⟨hk,e⟩:=List.getElem?_eq_some_iff.1 hE;have hL:L=L.take k ++ E :: L.drop (k+1):=by
  rw[←e]
  simp
 have hM:∀D ∈ L.drop (k+1),¬(D.ix=E.ix∧D.sub=E.sub):=by
  intro D hD hp;obtain⟨j,hj,e2⟩:=List.getElem_of_mem hD;have hj':L[k+1+j]? =some D:=by
   rw[←e2,List.getElem_drop];rw[List.length_drop] at hj;exact List.getElem?_eq_getElem _
  have:=zbq L hs k (k+1+j) E D hE hj' (by omega)
  unfold befE at this;rw[zbg] at this;omega
 have:=zbp (L.take k) (L.drop (k+1)) E E.ix E.sub 0 (-2) ⟨rfl,rfl⟩ hM
 unfold findL;rw[←hL,List.length_take] at this;rw[this]
 congr 1
 omega
theorem zca {L:List Ent}(hs:SortedE L){k:Nat}{E:Ent}{ix sub:Int}(hE:L[k]? =some E)(h:E.ix=ix∧E.sub=sub):locK L ix sub=k∧codeL L ix sub=0:=by
 obtain⟨rfl,rfl⟩:=h
 have:=zb9 hs hE
 exact⟨by unfold locK;rw[this];rfl,zbz.2 (by rw[this];omega)⟩
theorem zcb {L:List Ent}(hs:SortedE L){ix sub:Int}(h:codeL L ix sub=0):∃E,L[locK L ix sub]? =some E∧E.ix=ix∧E.sub=sub:=by
 have h0:=zbz.1 h;rcases zbv L ix sub hs with ⟨h1,h2,h3⟩ | ⟨_,_,h2⟩ | ⟨_,_,_,h2⟩ | ⟨_,_,_,h2⟩
 · have hk:locK L ix sub=seekL L ix sub:=by unfold locK;rw[h2];rfl
   rw[hk];cases hE:L[seekL L ix sub]? with
   | none=>rw[hE] at h1;cases h1
   | some E=>
     rw[hE] at h1;simp only[hereB,Bool.and_eq_true,decide_eq_true_eq] at h1;exact⟨E,rfl,h1.1,h1.2⟩
 all_goals omega
theorem zcc {L:List Ent}{ix sub:Int}{b:List UInt8}{any:Bool}(h:mayC L ix sub b any=0):codeL L ix sub=0:=by
 unfold mayC at h;split at h
 · assumption
 · exact h
theorem zcd {L:List Ent}(hs:SortedE L){V:List (List UInt8)}(hV:V.length=L.length){k:Nat}{E:Ent}(hE:L[k]? =some E)(ix sub:Int)(b:List UInt8)(any:Bool) :
 (putV L V ix sub b any)[k]? =if E.ix=ix∧E.sub=sub∧mayC L ix sub b any=0 then some b else V[k]? :=by
 unfold putV;have hk:k < V.length:=by rw[hV];exact (List.getElem?_eq_some_iff.1 hE).1
 by_cases hm:mayC L ix sub b any=0
 · rw[if_pos hm];by_cases hp:E.ix=ix∧E.sub=sub
   · rw[if_pos ⟨hp.1,hp.2,hm⟩,(zca hs hE hp).1,List.getElem?_set_self hk]
   · rw[if_neg (fun h=>hp ⟨h.1,h.2.1⟩),List.getElem?_set_ne];intro he;obtain⟨D,hD,h1,h2⟩:=zcb hs (zcc hm);rw[he,hE] at hD;injection hD with hD
     subst hD;exact hp ⟨h1,h2⟩
 · rw[if_neg hm,if_neg (fun h=>hm h.2.2)]
theorem zce {L:List Ent}(hs:SortedE L){V:List (List UInt8)}(hV:V.length=L.length){ix sub:Int}{b:List UInt8}{any:Bool}(hm:mayC L ix sub b any=0):valK (putV L V ix sub b any) (locK L ix sub)=b:=by
 obtain⟨E,hE,h1,h2⟩:=zcb hs (zcc hm);exact zb3 (by rw[zcd hs hV hE,if_pos ⟨h1,h2,hm⟩])
theorem zcf {L:List Ent}{ix sub:Int}(h:0≤findL L ix sub):∃k:Nat,findL L ix sub=(k:Int)∧ locK L ix sub=k∧k < L.length:=by
 obtain⟨k,hk⟩:=Int.eq_ofNat_of_zero_le h
 have:=zby h
 refine⟨k,hk,by unfold locK;rw[hk];rfl,?_⟩;unfold locK at this;rw[hk] at this;exact this
end
end
end
section
section
open Go.RowKit
structure Ms where
 kind:Int
 ix:Int
 sub:Int
 tg:Bool
 la:Bool
 cr:Bool
 sz:Bool
 size:Nat
 code:Nat
 data:List UInt8
 sq:Int
 bl:Int
 em:Int
 sum:Nat
 deriving DecidableEq
def msV (M:Ms) (A:Option Addr) (n c:Nat):Array Value:=#[.int .i64 M.kind,.int .i64 M.ix,.int .i64 M.sub,.bool M.tg,.bool M.la,.bool M.cr,.bool M.sz,.int .u32 (M.size:Nat),.int .u32 (M.code:Nat),.slice A n c,.int .i64 M.sq,.int .i64 M.bl,.int .i64 M.em,.int .u16 (M.sum:Nat)]
def msZ:Ms:=⟨0,0,0,false,false,false,false,0,0,[],0,0,0,0⟩
def formI (k:Int):Int:=if k=1 then 1 else if k=2 then 2 else if k=14 then 2 else if k=3 then 3 else if k=15 then 3 else if k=4 then 4 else if k=12 then 4 else if k=5 then 5 else if k=13 then 5 else
 if k=6 then 6 else if k=19 then 6 else if k=7 then 7 else if k=20 then 7 else if k=8 then 8 else if k=16 then 8 else if k=10 then 9 else if k=17 then 9 else if k=9 then 10 else if k=11 then 10 else if k=18 then 10 else if k=21 then 11 else 0
def firstI (k:Int):Int:=if k=1 then 128 else if k=2 then 32 else if k=14 then 64 else if k=3 then 0 else if k=15 then 0 else if k=4 then 64 else if k=12 then 96 else if k=5 then 96 else if k=13 then 32 else
 if k=6 then 192 else if k=19 then 192 else if k=7 then 193 else if k=20 then 193 else if k=8 then 160 else if k=16 then 160 else if k=10 then 162 else if k=17 then 162 else if k=9 then 163 else if k=11 then 161 else if k=18 then 161 else 0
def placedB (f:Int):Bool:=decide (f=1) || decide (f=2) || decide (f=4) || decide (f=6) || decide (f=8)
def dataB (f:Int):Bool:=decide (f=2) || decide (f=3) || decide (f=11)
theorem zcg (k:Int):0≤formI k∧formI k≤11:=by unfold formI;(repeat' split)<;> omega
theorem zch (k:Int)(h:k < 1∨21 < k):formI k=0:=by unfold formI;(repeat' split)<;> omega
def onlyM (f:Int) (M:Ms):Ms where
 kind:=M.kind
 ix:=if placedB f=true then M.ix else 0
 sub:=if placedB f=true then M.sub else 0
 tg:=if f=3∨f=5 then M.tg else false
 la:=if f=3∨f=11 then M.la else false
 cr:=if f=6∨f=8 then M.cr else false
 sz:=if f=2∨f=6 then M.sz else false
 size:=if f=2∧M.data= []∧ M.sz=true∨f=6∧M.sz=true then M.size else 0
 code:=if f=1 then M.code else 0
 data:=if dataB f=true then M.data else []
 sq:=if f=9∨f=11 then M.sq else 0
 bl:=if f=8∨f=9 then M.bl else 0
 em:=if f=7 then M.em else 0
 sum:=if f=7 then M.sum else 0
def sameB (M N:Ms):Bool:=decide (M=N)
end
section
open Go.RowKit
structure SegS where
 st:Int
 ix:Int
 sub:Int
 mo:Int
 sz:Int
 b:List UInt8
 tg:Bool
 wk:Int
 wi:Int
 ws:Int
 wt:Bool
structure SegO where
 ms:List Ms
 wr:Bool
 ix:Int
 sub:Int
 b:List UInt8
def segZ:SegS:=⟨0,0,0,0,0,[],false,0,0,0,false⟩
def outZ:SegO:=⟨[],false,0,0,[]⟩
def outM (M:Ms):SegO:=⟨[M],false,0,0,[]⟩
def outL (l:List Ms):SegO:=⟨l,false,0,0,[]⟩
def mostE (E:Ent):Int:=if 0 < tyBits E.ty then tySize E.ty else if E.mx < 0 then 0 else if 256 < E.mx then 256 else E.mx
def fitsC (E:Ent) (n:Int):Int:=if mostE E < n then 101122066 else if n < tySize E.ty then 101122067 else 0
def smayC (L:List Ent) (ix sub:Int):Int:=if codeL L ix sub=0 then writeE (entK L (locK L ix sub)).acc else codeL L ix sub
def abM (ix sub:Int) (code:Nat):Ms:=⟨1,ix,sub,false,false,false,false,0,code,[],0,0,0,0⟩
def okM (k ix sub:Int) (tg:Bool):Ms:=⟨k,ix,sub,tg,false,false,false,0,0,[],0,0,0,0⟩
def upM (ix sub:Int) (size:Nat) (data:List UInt8):Ms:=⟨14,ix,sub,false,false,false,true,size,0,data,0,0,0,0⟩
def segM (tg la:Bool) (data:List UInt8):Ms:=⟨15,0,0,tg,la,false,false,0,0,data,0,0,0,0⟩
def wellM (S:SegS):Ms:=okM S.wk S.wi S.ws S.wt
def segIdle (S:SegS):SegS:={ S with st:=0 }
def abortS (S:SegS):SegS:={ S with st:=0 }
def abortL (S:SegS) (code:Nat):List Ms:=if S.st=0 then [] else [abM S.ix S.sub code]
def answerS (S:SegS):SegS:=if S.st=3 then { S with st:=0 } else S
def answerL (S:SegS) (code:Nat):List Ms:=if S.st=3 then (if code≠0 then [abM S.ix S.sub code] else [wellM S]) else []
def dcode (L:List Ent) (M:Ms):Int:=if smayC L M.ix M.sub=0∧M.sz=true∧M.data= [] then fitsC (entK L (locK L M.ix M.sub)) M.size else smayC L M.ix M.sub
def downS (L:List Ent) (S:SegS) (M:Ms):SegS:=
 if dcode L M≠0 then S else
 if M.data≠ [] then { S with st:=3,ix:=M.ix,sub:=M.sub,wk:=12,wi:=M.ix,ws:=M.sub,wt:=false }
 else { S with st:=1,ix:=M.ix,sub:=M.sub,mo:=mostE (entK L (locK L M.ix M.sub)),sz:=if M.sz=true then M.size else -1,b:=[],tg:=false }
def downO (L:List Ent) (M:Ms):SegO:=
 if dcode L M≠0 then outM (abM M.ix M.sub (dcode L M).toNat) else
 if M.data≠ [] then ⟨[],true,M.ix,M.sub,M.data⟩
 else outM (okM 12 M.ix M.sub false)
def pcode (S:SegS) (M:Ms):Int:=if M.tg≠S.tg then 84082688 else if S.mo < ((S.b ++ M.data).length:Int)∨ (S.sz≠ -1∧S.sz < ((S.b ++ M.data).length:Int)) then 101122066 else if M.la=true∧S.sz≠ -1∧((S.b ++ M.data).length:Int)≠ S.sz then 101122064 else 0
def partS (S:SegS) (M:Ms):SegS:=
 if M.tg≠S.tg then { S with st:=0 } else if pcode S M≠0 then { S with st:=0,tg:=!S.tg,b:=S.b ++ M.data } else
 if M.la=true then { S with st:=3,tg:=!S.tg,b:=S.b ++ M.data,wk:=13,wi:=0,ws:=0,wt:=M.tg } else { S with tg:=!S.tg,b:=S.b ++ M.data }
def partO (S:SegS) (M:Ms):SegO:=
 if pcode S M≠0 then outL (abortL S (pcode S M).toNat) else
 if M.la=true then ⟨[],true,S.ix,S.sub,S.b ++ M.data⟩ else outM (okM 13 0 0 M.tg)
def getB (L:List Ent) (V:List (List UInt8)) (ix sub:Int):List UInt8:=if getC L ix sub=0 then valK V (locK L ix sub) else []
def upS (L:List Ent) (V:List (List UInt8)) (S:SegS) (M:Ms):SegS:=
 if getC L M.ix M.sub≠0 then S else
 if 0 < (getB L V M.ix M.sub).length∧(getB L V M.ix M.sub).length≤4 then S
 else { S with st:=2,ix:=M.ix,sub:=M.sub,b:=getB L V M.ix M.sub,tg:=false }
def upO (L:List Ent) (V:List (List UInt8)) (M:Ms):SegO:=
 if getC L M.ix M.sub≠0 then outM (abM M.ix M.sub (getC L M.ix M.sub).toNat) else
 if 0 < (getB L V M.ix M.sub).length∧(getB L V M.ix M.sub).length≤4 then outM (upM M.ix M.sub 0 (getB L V M.ix M.sub))
 else outM (upM M.ix M.sub (getB L V M.ix M.sub).length [])
def nextS (S:SegS) (M:Ms):SegS:=
 if M.tg≠S.tg then { S with st:=0 } else if S.b.length≤7 then { S with st:=0,tg:=!S.tg,b:=[] } else { S with tg:=!S.tg,b:=S.b.drop 7 }
def nextO (S:SegS) (M:Ms):SegO:=
 if M.tg≠S.tg then outL (abortL S 84082688) else outM (segM M.tg (decide (S.b.length≤7)) (S.b.take 7))
def wokeS (S:SegS):SegS:=if S.st=3 then { S with st:=0 } else S
def recvS (L:List Ent) (V:List (List UInt8)) (S:SegS) (M:Ms):SegS:=
 if M.kind=1 then segIdle S else if M.kind=2 then downS L (segIdle S) M else if M.kind=4 then upS L V (segIdle S) M else
 if M.kind=3∧S.st=1 then partS S M else if M.kind=5∧S.st=2 then nextS S M else segIdle S
def recvO (L:List Ent) (V:List (List UInt8)) (S:SegS) (M:Ms):SegO:=
 if M.kind=1 then outZ else if M.kind=2 then downO L M else if M.kind=4 then upO L V M else
 if M.kind=3∧S.st=1 then partO S M else if M.kind=5∧S.st=2 then nextO S M else
 if (wokeS S).st≠0 then outM (abM S.ix S.sub 84148225) else outM (abM 0 0 84148225)
end
end
section
def c16Bit (r b:Nat):Nat:=if r / 32768=b then r * 2 % 65536 else (r * 2 % 65536) ^^^ 4129
def c16Bits (r c:Nat):Nat→Nat
 | 0=>r
 | k+1=>c16Bit (c16Bits r c k) (c / 2 ^ (7 - k) % 2)
def c16L (r:Nat) (l:List UInt8):Nat:=l.foldl (fun r c=>c16Bits r c.toNat 8) r
def U16 (r:Nat):Prop:=r < 65536
theorem U16.xor {a b:Nat}(ha:U16 a)(hb:U16 b):U16 (a ^^^ b):=Nat.xor_lt_two_pow (n:=16) ha hb
theorem zci (r b:Nat):U16 (c16Bit r b):=by
 unfold c16Bit;split
 · exact Nat.mod_lt _ (by decide)
 · exact U16.xor (Nat.mod_lt _ (by decide)) (by unfold U16;omega)
theorem zcj {r:Nat}(h:U16 r)(c k:Nat):U16 (c16Bits r c k):=by
 cases k with
 | zero=>exact h
 | succ k=>exact zci _ _
theorem zck {r:Nat}(h:U16 r)(l:List UInt8):U16 (c16L r l):=by
 induction l generalizing r with
 | nil=>exact h
 | cons c l ih=>exact ih (zcj h _ _)
theorem zcl (r:Nat)(l:List UInt8)(c:UInt8):c16L r (l ++ [c])=c16Bits (c16L r l) c.toNat 8:=by simp[c16L]
theorem zcm (r:Nat)(l:List UInt8)(k:Nat)(h:k < l.length):c16L r (l.take (k+1))=c16Bits (c16L r (l.take k)) (l[k]).toNat 8:=by
 rw[List.take_succ_eq_append_getElem h,zcl]
def sum16L (l:List UInt8):Nat:=c16L 0 l
theorem zcn (l:List UInt8):U16 (sum16L l):=zck (by unfold U16;omega) l
end
end Go.Proofs.YtkkpjbjmhaecjaaGreat
