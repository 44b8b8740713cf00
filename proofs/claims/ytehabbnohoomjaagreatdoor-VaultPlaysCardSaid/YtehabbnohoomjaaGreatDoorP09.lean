/- None -/
import Derived.Test.YtehabbnohoomjaaGreatDoorP08
namespace Go.Proofs.YtehabbnohoomjaaGreatDoor
set_option linter.unusedVariables false
set_option linter.unusedSimpArgs false
set_option linter.unnecessarySimpa false
section
set_option maxHeartbeats 1000000
theorem zgj (L:List KV) (n:Nat) :
 ((newestS L n).2=true→(newestS L n).1 < n∧0 < (L.getD (newestS L n).1 default).cnt∧(∀ j,j < n→0 < (L.getD j default).cnt→(L.getD j default).m≤(L.getD (newestS L n).1 default).m)∧ (∀ j,j < (newestS L n).1→0 < (L.getD j default).cnt→(L.getD j default).m < (L.getD (newestS L n).1 default).m))∧
 ((newestS L n).2=false→(newestS L n).1=0∧ ∀ j,j < n→ ¬ 0 < (L.getD j default).cnt):= by
 induction n with
 | zero=>exact⟨fun h=>(by cases h),fun _=>⟨rfl,fun j h=>(by omega)⟩⟩
 | succ n ih=>
   obtain⟨ih1,ih2⟩:= ih
   unfold newestS
   split
   · rename_i h
     simp only[Bool.and_eq_true,Bool.or_eq_true,Bool.not_eq_true',decide_eq_true_eq] at h
     refine⟨fun _=>⟨Nat.lt_succ_self n,h.1,?_,?_⟩,fun h0=>(by cases h0)⟩
     · intro j hj hc
       simp only[]
       rcases Nat.lt_or_ge j n with hjn | hjn
       · rcases h.2 with h2 | h2
         · exact absurd hc ((ih2 h2).2 j hjn)
         · cases h3:(newestS L n).2
           · exact absurd hc ((ih2 h3).2 j hjn)
           · have:=(ih1 h3).2.2.1 j hjn hc
             omega
       · obtain rfl:j=n:=by omega
         exact Nat.le_refl _
     · intro j hjn hc
       simp only[] at hjn ⊢
       rcases h.2 with h2 | h2
       · exact absurd hc ((ih2 h2).2 j hjn)
       · cases h3:(newestS L n).2
         · exact absurd hc ((ih2 h3).2 j hjn)
         · have:=(ih1 h3).2.2.1 j hjn hc
           omega
   · rename_i h
     simp only[Bool.and_eq_true,Bool.or_eq_true,Bool.not_eq_true',decide_eq_true_eq] at h
     constructor
     · intro h0
       obtain⟨a1,a2,a3,a4⟩:= ih1 h0
       refine⟨by omega,a2,?_,a4⟩
       intro j hj hc
       rcases Nat.lt_or_ge j n with hjn | hjn
       · exact a3 j hjn hc
       · obtain rfl:j=n:=by omega
         exact Nat.le_of_not_lt (fun hlt=>h ⟨hc,.inr hlt⟩)
     · intro h0
       obtain⟨a1,a2⟩:= ih2 h0
       refine⟨a1,?_⟩
       intro j hj hc
       rcases Nat.lt_or_ge j n with hjn | hjn
       · exact a2 j hjn hc
       · obtain rfl:j=n:=by omega
         exact h ⟨hc,.inl h0⟩
theorem zgk (L:List KV) (n a:Nat) (h1:a < n) (h2:0 < (L.getD a default).cnt) (h3:∀ j,j < n→0 < (L.getD j default).cnt→(L.getD j default).m≤(L.getD a default).m)
 (h4:∀ j,j < a→0 < (L.getD j default).cnt→(L.getD j default).m < (L.getD a default).m):newestS L n=(a,true):= by
 obtain⟨s1,s2⟩:= zgj L n
 cases hb:(newestS L n).2
 · exact absurd h2 ((s2 hb).2 a h1)
 · obtain⟨b1,b2,b3,b4⟩:= s1 hb
   have e:(newestS L n).1=a:=by
    rcases Nat.lt_trichotomy (newestS L n).1 a with h | h | h
    · have:=h4 _ h b2
      have:=b3 a h1 h2
      omega
    · exact h
    · have:=b4 _ h h2
      have:=h3 _ b1 b2
      omega
   exact Prod.ext e hb
theorem zgl (L:List KV) (n:Nat) (h:∀ j,j < n→ ¬ 0 < (L.getD j default).cnt):newestS L n=(0,false):= by
 obtain⟨s1,s2⟩:= zgj L n
 cases hb:(newestS L n).2
 · exact Prod.ext (s2 hb).1 hb
 · exact absurd (s1 hb).2.1 (h _ (s1 hb).1)
theorem zgm (L:List KV) (wear left:List Int) (nw:Nat×Bool) (n:Nat) :
 ((nextS L wear left nw n).2=true→(nextS L wear left nw n).1 < n∧skipB L left nw (nextS L wear left nw n).1=false∧ ∀ j,j < n→skipB L left nw j=false→wear.getD (nextS L wear left nw n).1 0≤wear.getD j 0)∧
 ((nextS L wear left nw n).2=false→(nextS L wear left nw n).1=0∧ ∀ j,j < n→skipB L left nw j=true):= by
 induction n with
 | zero=>exact⟨fun h=>(by cases h),fun _=>⟨rfl,fun j h=>(by omega)⟩⟩
 | succ n ih=>
   obtain⟨ih1,ih2⟩:= ih
   rw[nextS]
   split
   · rename_i hs
     constructor
     · intro h
       obtain⟨a1,a2,a3⟩:= ih1 h
       refine⟨by omega,a2,?_⟩
       intro j hj hsj
       rcases Nat.lt_or_ge j n with hjn | hjn
       · exact a3 j hjn hsj
       · obtain rfl:j=n:=by omega
         rw[hs] at hsj;cases hsj
     · intro h
       refine⟨(ih2 h).1,?_⟩
       intro j hj
       rcases Nat.lt_or_ge j n with hjn | hjn
       · exact (ih2 h).2 j hjn
       · obtain rfl:j=n:=by omega
         exact hs
   · rename_i hs
     have hs:skipB L left nw n=false:=by simpa using hs
     split
     · rename_i h
       simp only[Bool.or_eq_true,Bool.not_eq_true',decide_eq_true_eq] at h
       refine⟨fun _=>⟨Nat.lt_succ_self n,hs,?_⟩,fun h0=>(by cases h0)⟩
       intro j hj hsj
       simp only[]
       rcases Nat.lt_or_ge j n with hjn | hjn
       · cases h3:(nextS L wear left nw n).2
         · have:=(ih2 h3).2 j hjn
           rw[hsj] at this;cases this
         · rcases h with h | h
           · rw[h3] at h;cases h
           · have:=(ih1 h3).2.2 j hjn hsj
             omega
       · obtain rfl:j=n:=by omega
         exact Int.le_refl _
     · rename_i h
       simp only[Bool.or_eq_true,Bool.not_eq_true',decide_eq_true_eq,not_or] at h
       constructor
       · intro h0
         obtain⟨a1,a2,a3⟩:= ih1 h0
         refine⟨by omega,a2,?_⟩
         intro j hj hsj
         rcases Nat.lt_or_ge j n with hjn | hjn
         · exact a3 j hjn hsj
         · obtain rfl:j=n:=by omega
           omega
       · intro h0
         exact absurd h0 h.1
def kvO (x:LK):KV:=⟨x.k,x.m,none,0,0,x.cnt,x.en,x.cl⟩
theorem zgn (L:List LK) (j:Nat):(L.map kvO).getD j default=kvO (L.getD j lookZ):= by
 rw[List.getD_eq_getElem?_getD,List.getD_eq_getElem?_getD,List.getElem?_map]
 cases L[j]? <;>rfl
def newL (L:List LK):Nat×Bool:=newestS (L.map kvO) L.length
def skipL (L:List LK) (wear:List Nat) (most:Int) (i:Nat):Bool:=((newL L).2 && decide (i=(newL L).1)) || ((decide ((L.getD i lookZ).cnt≠0) || !(L.getD i lookZ).cl) && decide (most - (wear.getD i 0:Nat)≤ 0))
def nextL (L:List LK) (wear:List Nat) (most:Int):Nat×Bool:=nextS (L.map kvO) (wear.map fun x=>((x:Nat):Int)) (wear.map fun x=>most - ((x:Nat):Int)) (newL L) L.length
def NewAt (L:List LK) (a:Nat):Prop:=a < L.length∧0 < (L.getD a lookZ).cnt∧(∀ j,j < L.length→0 < (L.getD j lookZ).cnt→(L.getD j lookZ).m≤(L.getD a lookZ).m)∧ (∀ j,j < a→0 < (L.getD j lookZ).cnt→(L.getD j lookZ).m < (L.getD a lookZ).m)
def NoneL (L:List LK):Prop:= ∀ j,j < L.length→(L.getD j lookZ).cnt=0
theorem zgo {L:List LK} {a:Nat}:newL L=(a,true) ↔ NewAt L a:=by
 have hc:∀ j,((L.map kvO).getD j default).cnt=((L.getD j lookZ).cnt:Nat):= fun j=>by rw[zgn];rfl
 have hm:∀ j,((L.map kvO).getD j default).m=(L.getD j lookZ).m:=fun j=>by rw[zgn];rfl
 constructor
 · intro h
   have h2:(newestS (L.map kvO) L.length).2=true:=congrArg Prod.snd h
   have h1:(newestS (L.map kvO) L.length).1=a:=congrArg Prod.fst h
   have hs:=(zgj (L.map kvO) L.length).1 h2
   rw[h1] at hs
   simp only[hc,hm] at hs
   exact⟨hs.1,by omega,fun j hj h0=>hs.2.2.1 j hj (by omega),fun j hj h0=>hs.2.2.2 j hj (by omega)⟩
 · rintro⟨h1,h2,h3,h4⟩
   refine zgk _ _ _ h1 (by rw[hc];omega) ?_ ?_
   · intro j hj h0;rw[hc] at h0;rw[hm,hm];exact h3 j hj (by omega)
   · intro j hj h0;rw[hc] at h0;rw[hm,hm];exact h4 j hj (by omega)
theorem zgp {L:List LK}:newL L=(0,false) ↔ NoneL L:=by
 have hc:∀ j,((L.map kvO).getD j default).cnt=((L.getD j lookZ).cnt:Nat):= fun j=>by rw[zgn];rfl
 constructor
 · intro h
   have h2:(newestS (L.map kvO) L.length).2=false:=congrArg Prod.snd h
   have hs:=(zgj (L.map kvO) L.length).2 h2
   intro j hj
   have:=hs.2 j hj
   rw[hc] at this
   omega
 · intro h
   exact zgl _ _ (fun j hj=>by rw[hc,h j hj];omega)
theorem zgq (L:List LK):(∃ a,newL L=(a,true))∨ newL L=(0,false):= by
 have hs:=zgj (L.map kvO) L.length
 cases hb:(newestS (L.map kvO) L.length).2
 · exact .inr (Prod.ext (hs.2 hb).1 hb)
 · exact .inl ⟨_,Prod.ext rfl hb⟩
theorem zgr (L:List LK) (wear:List Nat) (most:Int) (i:Nat) (hl:wear.length=L.length) (hi:i < L.length):skipB (L.map kvO) (wear.map fun x=>most - ((x:Nat):Int)) (newL L) i=skipL L wear most i:=by
 unfold skipB skipL
 rw[zgn]
 have h1:(wear.map fun x=>most - ((x:Nat):Int)).getD i 0=most - (wear.getD i 0:Nat):= by
  rw[List.getD_eq_getElem?_getD,List.getD_eq_getElem?_getD,List.getElem?_map,List.getElem?_eq_getElem (by omega)]
  rfl
 have h2:decide ((kvO (L.getD i lookZ)).cnt≠0)=decide ((L.getD i lookZ).cnt≠0):= by
  simp[kvO]
 rw[h1,h2]
 rfl
theorem zgs (L:List LK) (wear:List Nat) (most:Int) (hl:wear.length=L.length) :
 ((nextL L wear most).2=true→(nextL L wear most).1 < L.length∧skipL L wear most (nextL L wear most).1=false∧ ∀ j,j < L.length→skipL L wear most j=false→wear.getD (nextL L wear most).1 0≤wear.getD j 0)∧
 ((nextL L wear most).2=false→(nextL L wear most).1=0∧ ∀ j,j < L.length→skipL L wear most j=true):= by
 have hs:=zgm (L.map kvO) (wear.map fun x=>((x:Nat):Int)) (wear.map fun x=>most - ((x:Nat):Int)) (newL L) L.length
 have hw:∀ j,j < L.length→(wear.map fun x=>((x:Nat):Int)).getD j 0=((wear.getD j 0:Nat):Int):= by
  intro j hj
  rw[List.getD_eq_getElem?_getD,List.getD_eq_getElem?_getD,List.getElem?_map,List.getElem?_eq_getElem (by omega)]
  rfl
 constructor
 · intro h
   obtain⟨a1,a2,a3⟩:= hs.1 h
   refine⟨a1,(zgr L wear most _ hl a1).symm.trans a2,?_⟩
   intro j hj hj2
   have:=a3 j hj (by rw[zgr L wear most _ hl hj];exact hj2)
   rw[hw _ a1,hw _ hj] at this
   exact Int.ofNat_le.1 this
 · intro h
   obtain⟨a1,a2⟩:= hs.2 h
   refine⟨a1,?_⟩
   intro j hj
   rw[← zgr L wear most _ hl hj]
   exact a2 j hj
structure FS where
 b:List UInt8
 wear:List Nat
 most:Int
 off:Bool
 ahead:Int
 mask:Nat
 ops:Nat
def decA (a:Int):Int:=if 0 < a then a - 1 else a
def tornB (c x:UInt8) (mask:Nat):UInt8:=c &&& (x ||| ~~~ (UInt8.ofNat mask))
def progF (S:FS) (k:Nat):List UInt8→FS×Int
 | []=> (S,0)
 | x :: bs=>if S.ahead=0 then ({ S with b:=S.b.set k (tornB (S.b.getD k 0) x S.mask),ahead:= -1,off:=true },7)
   else progF { S with b:=S.b.set k (S.b.getD k 0 &&& x),ahead:=decA S.ahead,ops:=S.ops+1 } (k+1) bs
def eraseF (S:FS) (i:Nat):FS×Int:=
 if S.ahead=0 then ({ S with b:=put S.b (1024 * i) (List.replicate (S.mask % 1025) 255),wear:=S.wear.set i (S.wear.getD i 0+1),ahead:= -1,off:=true },7)
 else ({ S with b:=put S.b (1024 * i) (List.replicate 1024 255),wear:=S.wear.set i (S.wear.getD i 0+1),ahead:=decA S.ahead,ops:=S.ops+1 },0)
theorem zgt {l:List UInt8} {k:Nat} {A B:List UInt8} (h:k+A.length+B.length≤l.length):put (put l k A) (k+A.length) B=put l k (A ++ B):= by
 have h1:(put l k A).length=l.length:=zfs (by omega)
 apply List.ext_getElem?
 intro j
 rw[zft (by omega),zft (by omega),zft (by rw[List.length_append];omega),List.length_append]
 by_cases h2:j < k
 · rw[if_pos (by omega),if_pos h2,if_pos h2]
 · rw[if_neg h2,if_neg h2]
   by_cases h3:j < k+A.length
   · rw[if_pos h3,if_pos h3,if_pos (by omega),List.getElem?_append_left (by omega)]
   · rw[if_neg h3,if_neg h3]
     by_cases h4:j < k+A.length+B.length
     · rw[if_pos h4,if_pos (by omega),List.getElem?_append_right (by omega)]
       congr 1
       omega
     · rw[if_neg h4,if_neg (by omega)]
theorem zgu {l:List UInt8} {k:Nat} (x:UInt8) (h:k < l.length):l.set k x=put l k [x]:= by
 apply List.ext_getElem?
 intro j
 rw[zft (by simp;omega),List.getElem?_set]
 by_cases h1:k=j
 · subst h1
   rw[if_pos rfl,if_pos h,if_neg (by omega),if_pos (by simp)]
   simp
 · rw[if_neg h1]
   by_cases h2:j < k
   · rw[if_pos h2]
   · rw[if_neg h2,if_neg (by simp;omega)]
theorem zgv (x:UInt8):(255:UInt8) &&& x=x:=by
 apply UInt8.toNat.inj
 rw[UInt8.toNat_and]
 have:=x.toNat_lt
 rw[show (255:UInt8).toNat=2 ^ 8 - 1 from rfl,Nat.and_comm,Nat.and_two_pow_sub_one_eq_mod]
 exact Nat.mod_eq_of_lt this
theorem or_ge (x y:UInt8):x.toNat≤(x ||| y).toNat:=by
 rw[UInt8.toNat_or]
 exact Nat.left_le_or
theorem zgw (bs:List UInt8):∀ (S:FS) (k:Nat),(∀ j,k≤j→j < k+bs.length→S.b[j]? =some 255)→ k+bs.length≤S.b.length→
 ((S.ahead < 0∨(bs.length:Int)≤ S.ahead)∧ progF S k bs=({ S with b:=put S.b k bs,ahead:=(if S.ahead < 0 then S.ahead else S.ahead - bs.length),ops:=S.ops+bs.length },0))∨
 (∃ t y,S.ahead=(t:Nat)∧ t < bs.length∧bs[t]? =some y∧progF S k bs=({ S with b:=put S.b k (bs.take t ++ [y ||| ~~~ (UInt8.ofNat S.mask)]),ahead:= -1,off:=true,ops:=S.ops+t },7)):= by
 induction bs with
 | nil=>
   intro S k _ _
   left
   refine⟨by simp;omega,?_⟩
   rw[progF,zfu]
   obtain⟨b,wear,most,off,ahead,mask,ops⟩:= S
   simp
 | cons x bs ih=>
   intro S k h1 h2
   rw[List.length_cons] at h2
   have hk:=h1 k (Nat.le_refl _) (by simp)
   have hg:S.b.getD k 0=255:=by rw[List.getD_eq_getElem?_getD,hk];rfl
   rw[progF,hg]
   by_cases h0:S.ahead=0
   · right
     refine⟨0,x,by rw[h0];rfl,by simp,rfl,?_⟩
     rw[if_pos h0,tornB,zgv,zgu _ (by omega)]
     rfl
   · rw[if_neg h0,zgv,zgu _ (by omega)]
     have hi:=ih { S with b:=put S.b k [x],ahead:=decA S.ahead,ops:=S.ops+1 } (k+1) (by
      intro j hj1 hj2
      simp only[]
      rw[zft (by simp;omega),if_neg (by omega),if_neg (by simp;omega)]
      exact h1 j (by omega) (by rw[List.length_cons];omega)) (by simp only[];rw[zfs (by simp;omega)];omega)
     simp only[] at hi
     have hpp:∀ B:List UInt8,B.length≤bs.length→put (put S.b k [x]) (k+1) B=put S.b k (x :: B):= fun B hB=>zgt (A:= [x]) (by simp;omega)
     rcases hi with ⟨ha,he⟩ | ⟨t,y,ha,ht,hy,he⟩
     · left
       refine⟨?_,?_⟩
       · rw[List.length_cons]
         unfold decA at ha
         split at ha<;>omega
       · rw[he,hpp bs (Nat.le_refl _),List.length_cons]
         congr 1
         rw[FS.mk.injEq]
         refine⟨rfl,rfl,rfl,rfl,?_,rfl,by omega⟩
         unfold decA
         split<;>split<;>(try split)<;> omega
     · right
       refine⟨t+1,y,?_,by rw[List.length_cons];omega,hy,?_⟩
       · unfold decA at ha
         split at ha<;>omega
       · rw[he,hpp _ (by rw[List.length_append,List.length_take];simp;omega)]
         congr 1
         rw[FS.mk.injEq]
         exact⟨rfl,rfl,rfl,rfl,rfl,rfl,by omega⟩
structure JS where
 looks:List LK
 now:Nat
 has:Bool
 dead:Bool
def looksF (S:FS):List LK:=(List.range S.wear.length).map fun i=>lookL (secB S.b i)
def lastJ (J:JS):LK:=J.looks.getD J.now lookZ
def numJ (J:JS):Nat:=if J.has=true then (lastJ J).m else 0
def roomL (x:LK) (n:Nat):Bool:=x.cl && decide (n≤960∧x.en+n+13≤1024)
def begunL (x:LK):Bool:=decide (0 < x.cnt) || !x.cl
def placeJ (J:JS) (S:FS) (n:Nat):Nat×Bool×Bool:=
 if (J.has && roomL (lastJ J) n)=true then (J.now,false,true)
 else if (nextL J.looks S.wear S.most).2=true then ((nextL J.looks S.wear S.most).1,begunL (J.looks.getD (nextL J.looks S.wear S.most).1 lookZ),true) else (0,false,false)
def layJ (J:JS) (S:FS) (i:Nat) (x:LK) (kd:Int) (num:Nat) (d:List UInt8):JS×FS×Int:=
 match progF S (1024 * i+x.en) (recB kd num d) with
 | (S',e)=> if e=0 then (⟨J.looks.set i ⟨kd,num,d,x.cnt+1,x.en+d.length+13,x.cl⟩,i,true,J.dead⟩,S',0) else (⟨J.looks,J.now,J.has,true⟩,S',e)
def appJ (J:JS) (S:FS) (kd:Int) (d:List UInt8):JS×FS×Int:=
 if (J.dead || S.off)=true then (⟨J.looks,J.now,J.has,true⟩,S,7)
 else if numJ J=4294967295 then (J,S,6)
 else if rightR kd (numJ J+1) d.length≠0 then (J,S,rightR kd (numJ J+1) d.length)
 else match placeJ J S d.length with
  | (i,er,ok)=> if ok=false then (J,S,10)
    else if er=true then (match eraseF S i with
     | (S1,e1)=> if e1=0 then layJ ⟨J.looks.set i ⟨0,0,[],0,0,true⟩,J.now,J.has,J.dead⟩ S1 i ⟨0,0,[],0,0,true⟩ kd (numJ J+1) d else (⟨J.looks,J.now,J.has,true⟩,S1,e1))
    else layJ J S i (J.looks.getD i lookZ) kd (numJ J+1) d
structure ConJ (J:JS) (S:FS):Prop where
 looks:J.looks=looksF S
 new:newL J.looks=(J.now,J.has)
 len:S.b.length=1024 * S.wear.length
theorem zgx (S:FS):(looksF S).length=S.wear.length:=by unfold looksF;simp
theorem zgy (S:FS) {i:Nat} (h:i < S.wear.length):(looksF S)[i]? =some (lookL (secB S.b i)):= by
 unfold looksF
 rw[List.getElem?_map,List.getElem?_range h]
 rfl
theorem zgz (S:FS) {i:Nat} (h:i < S.wear.length):(looksF S).getD i lookZ=lookL (secB S.b i):= by rw[List.getD_eq_getElem?_getD,zgy S h];rfl
theorem zg0 {S S':FS} {i e:Nat} {B:List UInt8} (hl:S.b.length=1024 * S.wear.length) (hw:S'.wear.length=S.wear.length) (hi:i < S.wear.length) (hb:S'.b=put S.b (1024 * i+e) B) (he:e+B.length≤1024) :
 looksF S'=(looksF S).set i (lookL (put (secB S.b i) e B)):= by
 apply List.ext_getElem?
 intro j
 rw[List.getElem?_set]
 by_cases hj:j < S.wear.length
 · rw[zgy S' (by omega),hb]
   by_cases h1:i=j
   · subst h1
     rw[if_pos rfl,if_pos (by rw[zgx];exact hi),zfz (by omega) he]
   · rw[if_neg h1,zgy S hj,zf0 (by omega) he (fun h=>h1 h.symm)]
 · rw[List.getElem?_eq_none (by rw[zgx];omega)]
   split
   · rename_i h1
     rw[if_neg (by rw[zgx];omega)]
   · rw[List.getElem?_eq_none (by rw[zgx];omega)]
theorem zg1 {l:List UInt8} (f:Nat) (x:LK) (h:(lookF l f x).cnt=0):lookF l f x=x:=by
 have mono:∀ (f:Nat) (x:LK),x.cnt≤(lookF l f x).cnt:=by
  intro f
  induction f with
  | zero=>intro x;exact Nat.le_refl _
  | succ f ih=>
    intro x
    rw[lookF]
    split
    · exact Nat.le_refl _
    · refine Nat.le_trans ?_ (ih _)
      exact Nat.le_succ _
 cases f with
 | zero=>rfl
 | succ f=>
   cases hs:stopB x (recParse l x.en)
   · rw[zfi hs] at h
     have:=mono f ⟨(recParse l x.en).kind,(recParse l x.en).num,(recParse l x.en).data,x.cnt+1,x.en+(recParse l x.en).data.length+13,false⟩
     simp only[] at this
     omega
   · exact zfh hs
theorem zg2 {l:List UInt8} (h:(lookL l).cnt=0):lookL l=⟨0,0,[],0,0,(lookL l).cl⟩:= by
 have h1:lookE l=lookZ:=zg1 _ _ h
 have h2:lookL l=⟨(lookE l).k,(lookE l).m,(lookE l).d,(lookE l).cnt,(lookE l).en,(lookL l).cl⟩:= rfl
 rw[h2,h1]
 rfl
theorem zg3 {l:List UInt8}:U32 (lookL l).m:=by
 have h:∀ (f:Nat) (x:LK),U32 x.m→U32 (lookF l f x).m:=by
  intro f
  induction f with
  | zero=>intro x hx;exact hx
  | succ f ih=>
    intro x hx
    cases hs:stopB x (recParse l x.en)
    · rw[zfi hs]
      refine ih _ ?_
      have her:(recParse l x.en).er=0:=by
       simp only[stopB,Bool.or_eq_false_iff,decide_eq_false_iff_not] at hs
       exact Decidable.not_not.1 hs.1
      exact (zfj l x.en her).2.2
    · rw[zfh hs];exact hx
 exact h _ _ (by show (0:Nat) < _;decide)
def openJ (S:FS):JS:=⟨looksF S,(newL (looksF S)).1,(newL (looksF S)).2,false⟩
def newRec (y:LK) (kd:Int) (num:Nat) (d:List UInt8):Prop:=y.k=kd∧y.m=num∧y.d=d∧0 < y.cnt∧y.cl=true
structure Kept (S S':FS):Prop where
 len:S'.b.length=S.b.length
 wear:S'.wear.length=S.wear.length
 most:S'.most=S.most
section
variable {J J':JS} {S S':FS} {i:Nat} {x:LK} {kd e:Int} {num:Nat} {d:List UInt8}
theorem zg4 (hl:S.b.length=1024 * S.wear.length) (hi:i < S.wear.length) (hx:lookL (secB S.b i)=x) (hcl:x.cl=true) (hr:rightR kd num d.length=0) (hu:U32 num) (hf:follows x num) (hfit:x.en+d.length+13≤1024)
 (h:layJ J S i x kd num d=(J',S',e)) :
 (e=0∧J'=⟨J.looks.set i ⟨kd,num,d,x.cnt+1,x.en+d.length+13,true⟩,i,true,J.dead⟩∧ looksF S'=(looksF S).set i ⟨kd,num,d,x.cnt+1,x.en+d.length+13,true⟩∧ S'.off=S.off∧S'.wear=S.wear∧S'.ops=S.ops+d.length+13∧(S.ahead < 0→S'.ahead=S.ahead)∧ Kept S S')∨
 (e=7∧0≤S.ahead∧S'.off=true∧S'.wear=S.wear∧Kept S S'∧ ∃ y,looksF S'=(looksF S).set i y∧(y=⟨kd,num,d,x.cnt+1,x.en+d.length+13,true⟩∨ ∃ c,y= { x with cl:=c })):= by
 obtain⟨_,hBl⟩:= zfa [] [] d kd num hr hu
 have hsl:=zfx (b:=S.b) (i:=i) (by omega)
 have hbl:=(zgc hx).2.2.2.2.2
 rw[hcl] at hbl
 unfold layJ at h
 have hpb:=zgw (recB kd num d) S (1024 * i+x.en) (by
  intro j h1 h2
  rw[hBl] at h2
  have:=zf6 hbl (j:=j - 1024 * i) (by omega) (by omega)
  rw[zfy,if_pos (by omega),show 1024 * i+(j - 1024 * i)=j by omega] at this
  exact this) (by rw[hBl];omega)
 rcases hpb with ⟨ha,he⟩ | ⟨t,y,ha,ht,hy,he⟩
 · rw[he] at h
   simp only[if_true] at h
   injection h with h1 h2
   injection h2 with h2 h3
   left
   subst h1
   subst h2
   subst h3
   have hlk:=zgf hx hcl hr hu hf (by omega)
   refine⟨rfl,by rw[hcl],?_,rfl,rfl,by simp only[];rw[hBl];omega,fun h=>by simp only[];rw[if_pos h],⟨?_,rfl,rfl⟩⟩
   · rw[zg0 (S:=S) (S':={ S with b:=put S.b (1024 * i+x.en) (recB kd num d),ahead:=(if S.ahead < 0 then S.ahead else S.ahead - (recB kd num d).length),ops:=S.ops+(recB kd num d).length }) (e:=x.en) (B:=recB kd num d) hl rfl hi rfl (by rw[hBl];omega),hlk]
   · simp only[]
     rw[zfs (by rw[hBl];omega)]
 · rw[he] at h
   dsimp only at h
   rw[if_neg (by decide)] at h
   injection h with h1 h2
   injection h2 with h2 h3
   right
   subst h2
   subst h3
   rw[hBl] at ht
   have hTl:((recB kd num d).take t ++ [y ||| ~~~ (UInt8.ofNat S.mask)]).length=t+1:=by rw[List.length_append,List.length_take,hBl];simp;omega
   refine⟨rfl,by omega,rfl,rfl,⟨?_,rfl,rfl⟩,_,zg0 hl rfl hi rfl (by rw[hTl];omega),?_⟩
   · simp only[]
     rw[zfs (by rw[hTl];omega)]
   · exact zgh hx hcl hr hu hf (by omega) ht hy (or_ge _ _)
structure StepR (S S':FS) (J':JS) (kd:Int) (num:Nat) (d:List UInt8) (e:Int) (i:Nat) (y:LK) (er:Bool):Prop where
 hi:i < S.wear.length
 looks:looksF S'=(looksF S).set i y
 kept:Kept S S'
 wear:S'.wear=if er=true then S.wear.set i (S.wear.getD i 0+1) else S.wear
 place:(er=false∧(newL (looksF S))=(i,true))∨ (nextL (looksF S) S.wear S.most=(i,true)∧ er=begunL ((looksF S).getD i lookZ)∧ newL (looksF S)≠ (i,true))
 ends:(e=0∧S'.off=false∧newRec y kd num d∧J'=⟨looksF S',i,true,false⟩∧ S'.ops=S.ops+d.length+13+er.toNat∧(S.ahead < 0→S'.ahead=S.ahead))∨
  (e=7∧0≤S.ahead∧S'.off=true∧(newRec y kd num d∨(∃ c,y= { (looksF S).getD i lookZ with cl:=c })∨ (er=true∧ ∃ c,y=⟨0,0,[],0,0,c⟩)))
theorem zg5 (hl:S.b.length=1024 * S.wear.length) (hoff:S.off=false) (hm:numJ (openJ S)≠ 4294967295) (hr:rightR kd (numJ (openJ S)+1) d.length=0) (h:appJ (openJ S) S kd d=(J',S',e)) :
 (J'=openJ S∧S'=S∧e=10∧(nextL (looksF S) S.wear S.most).2=false)∨ ∃ i y er,StepR S S' J' kd (numJ (openJ S)+1) d e i y er:=by
 have hlooks:(openJ S).looks=looksF S:=rfl
 have hnow:(openJ S).now=(newL (looksF S)).1:=rfl
 have hhas:(openJ S).has=(newL (looksF S)).2:=rfl
 have hdead:(openJ S).dead=false:=rfl
 have hnum:∀ a,newL (looksF S)=(a,true)→ numJ (openJ S)=((looksF S).getD a lookZ).m:=by
  intro a ha
  unfold numJ lastJ
  rw[hhas,hnow,hlooks,ha]
  rfl
 have hu:U32 (numJ (openJ S)+1):= by
  have hu0:U32 (numJ (openJ S)):= by
   unfold numJ lastJ
   split
   · rename_i hh
     rw[hlooks,hnow]
     rcases zgq (looksF S) with ⟨a,ha⟩ | ha
     · have:=(zgo.1 ha).1
       rw[zgx] at this
       rw[ha,zgz S this]
       exact zg3
     · rw[hhas,ha] at hh
       cases hh
   · show (0:Nat) < _;decide
  unfold U32 at hu0 ⊢
  omega
 unfold appJ at h
 rw[if_neg (by rw[hdead,hoff];decide),if_neg hm,if_neg (by rw[hr];exact fun h=>h rfl)] at h
 unfold placeJ at h
 rw[hhas,hnow,hlooks] at h
 have hlast:lastJ (openJ S)=(looksF S).getD (newL (looksF S)).1 lookZ:=rfl
 rw[hlast] at h
 obtain⟨_,_,hd960,_,_⟩:= zed _ _ _ hr
 have hnn:nextL (looksF S) S.wear S.most=((nextL (looksF S) S.wear S.most).1,(nextL (looksF S) S.wear S.most).2):= rfl
 by_cases hroom:((newL (looksF S)).2 && roomL ((looksF S).getD (newL (looksF S)).1 lookZ) d.length)=true
 · rw[if_pos hroom] at h
   simp only[Bool.and_eq_true] at hroom
   obtain⟨hh,hrm⟩:= hroom
   have hat:newL (looksF S)=((newL (looksF S)).1,true):= Prod.ext rfl hh
   obtain⟨i,hieq⟩:∃ i,i=(newL (looksF S)).1:=⟨_,rfl⟩
   rw[← hieq] at h hrm hat
   have hna:=zgo.1 hat
   have hi:i < S.wear.length:=by have:=hna.1;rwa [zgx] at this
   unfold roomL at hrm
   simp only[Bool.and_eq_true,decide_eq_true_eq] at hrm
   dsimp only at h
   rw[if_neg (by decide),if_neg (by decide)] at h
   have hxe:=zgz S hi
   rw[hxe] at h hrm
   have hf:follows (lookL (secB S.b i)) (numJ (openJ S)+1):= by
    right
    have:=hnum i hat
    rw[hxe] at this
    exact⟨by rw[← this];exact hm,by rw[this]⟩
   right
   rcases zg4 hl hi rfl hrm.1 hr hu hf (by omega) h with ⟨rfl,rfl,h3,h4,h5,h6,h7,h8⟩ | ⟨rfl,h2,h3,h4,h5,y,h6,h7⟩
   · refine⟨i,_,false,hi,h3,h8,by rw[h5];rfl,.inl ⟨rfl,hat⟩,.inl ⟨rfl,by rw[h4];exact hoff,⟨rfl,rfl,rfl,Nat.succ_pos _,rfl⟩,?_,by rw[h6];rfl,h7⟩⟩
     rw[h3];rfl
   · refine⟨i,y,false,hi,h6,h5,by rw[h4];rfl,.inl ⟨rfl,hat⟩,.inr ⟨rfl,h2,h3,?_⟩⟩
     rcases h7 with rfl | ⟨c,rfl⟩
     · exact .inl ⟨rfl,rfl,rfl,Nat.succ_pos _,rfl⟩
     · exact .inr (.inl ⟨c,by rw[hxe]⟩)
 · rw[if_neg hroom] at h
   by_cases hnx:(nextL (looksF S) S.wear S.most).2=true
   · rw[if_pos hnx] at h
     obtain⟨i,hieq⟩:∃ i,i=(nextL (looksF S) S.wear S.most).1:=⟨_,rfl⟩
     have hnl:nextL (looksF S) S.wear S.most=(i,true):= by rw[hnn,hnx,← hieq]
     obtain⟨hi,hsk,_⟩:= (zgs (looksF S) S.wear S.most (zgx S).symm).1 hnx
     rw[← hieq] at h hi hsk
     rw[zgx] at hi
     have hne:newL (looksF S)≠ (i,true):= by
      intro h0
      unfold skipL at hsk
      rw[h0] at hsk
      simp at hsk
     have hxe:=zgz S hi
     right
     dsimp only at h
     rw[if_neg (by decide)] at h
     cases hbg:begunL ((looksF S).getD i lookZ)
     · rw[hbg,if_neg (by decide)] at h
       have hbg':=hbg
       rw[hxe] at hbg' h
       unfold begunL at hbg'
       simp only[Bool.or_eq_false_iff,decide_eq_false_iff_not,Bool.not_eq_false'] at hbg'
       have hz:(lookL (secB S.b i)).cnt=0:=by omega
       have hze:=zg2 hz
       rcases zg4 hl hi rfl hbg'.2 hr hu (.inl hz) (by rw[hze];simp only[];omega) h with ⟨rfl,rfl,h3,h4,h5,h6,h7,h8⟩ | ⟨rfl,h2,h3,h4,h5,y,h6,h7⟩
       · refine⟨i,_,false,hi,h3,h8,by rw[h5];rfl,.inr ⟨hnl,hbg.symm,hne⟩,.inl ⟨rfl,by rw[h4];exact hoff,⟨rfl,rfl,rfl,Nat.succ_pos _,rfl⟩,?_,by rw[h6];rfl,h7⟩⟩
         rw[h3];rfl
       · refine⟨i,y,false,hi,h6,h5,by rw[h4];rfl,.inr ⟨hnl,hbg.symm,hne⟩,.inr ⟨rfl,h2,h3,?_⟩⟩
         rcases h7 with rfl | ⟨c,rfl⟩
         · exact .inl ⟨rfl,rfl,rfl,Nat.succ_pos _,rfl⟩
         · exact .inr (.inl ⟨c,by rw[hxe]⟩)
     · rw[hbg,if_pos rfl] at h
       have hsl:=zfx (b:=S.b) (i:=i) (by omega)
       unfold eraseF at h
       by_cases ha:S.ahead=0
       · rw[if_pos ha] at h
         dsimp only at h
         rw[if_neg (by decide)] at h
         injection h with h1 h2
         injection h2 with h2 h3
         subst h1
         subst h2
         subst h3
         have hmk:S.mask % 1025≤1024:=by omega
         have hp:=zg0 (S:=S) (S':=⟨put S.b (1024 * i) (List.replicate (S.mask % 1025) 255),S.wear.set i (S.wear.getD i 0+1),S.most,true,-1,S.mask,S.ops⟩) (e:=0) (B:=List.replicate (S.mask % 1025) 255) hl (by simp) hi rfl (by simp;omega)
         refine⟨i,_,true,hi,hp,⟨by simp only[];rw[zfs (by simp;omega)],by simp,rfl⟩,rfl,.inr ⟨hnl,hbg.symm,hne⟩,.inr ⟨rfl,by omega,rfl,?_⟩⟩
         by_cases h0:S.mask % 1025=0
         · right
           left
           refine⟨(lookL (secB S.b i)).cl,?_⟩
           rw[h0,hxe,List.replicate_zero,zfu]
         · right
           right
           obtain⟨c,hc,_⟩:= zgi (secB S.b i) (S.mask % 1025) (by omega) (by omega)
           exact⟨rfl,c,hc⟩
       · rw[if_neg ha] at h
         dsimp only at h
         rw[if_pos rfl] at h
         obtain⟨S1,hS1⟩:∃ S1:FS,S1=⟨put S.b (1024 * i) (List.replicate 1024 255),S.wear.set i (S.wear.getD i 0+1),S.most,S.off,decA S.ahead,S.mask,S.ops+1⟩:= ⟨_,rfl⟩
         have hl1:S1.b.length=1024 * S1.wear.length:=by
          rw[hS1];simp only[List.length_set];rw[zfs (by rw[List.length_replicate];omega)];exact hl
         have hw1:S1.wear.length=S.wear.length:=by rw[hS1];simp
         have hp1:looksF S1=(looksF S).set i ⟨0,0,[],0,0,true⟩:= by
          rw[zg0 (S:=S) (S':=S1) (e:=0) (B:=List.replicate 1024 255) hl hw1 hi (by rw[hS1];rfl) (by rw[List.length_replicate];omega)]
          obtain⟨c,hc,hc2⟩:= zgi (secB S.b i) 1024 (by omega) (by omega)
          rw[hc,hc2 hsl.symm]
         have hx1:lookL (secB S1.b i)=⟨0,0,[],0,0,true⟩:= by
          have h0:=zgy S1 (i:=i) (by omega)
          rw[hp1,List.getElem?_set,if_pos rfl,if_pos (by rw[zgx];exact hi)] at h0
          injection h0 with h0
          exact h0.symm
         have h':layJ ⟨(openJ S).looks.set i ⟨0,0,[],0,0,true⟩,(openJ S).now,(openJ S).has,(openJ S).dead⟩ S1 i ⟨0,0,[],0,0,true⟩ kd (numJ (openJ S)+1) d=(J',S',e):= by rw[hS1];exact h
         have hkk:∀ S2,Kept S1 S2→Kept S S2:=fun S2 hk=>⟨by rw[hk.len,hl1,hw1,hl],by rw[hk.wear,hw1],by rw[hk.most,hS1]⟩
         rcases zg4 hl1 (by omega) hx1 rfl hr hu (.inl rfl) (by simp only[];omega) h' with ⟨rfl,rfl,h3,h4,h5,h6,h7,h8⟩ | ⟨rfl,h2,h3,h4,h5,y,h6,h7⟩
         · rw[hp1,List.set_set] at h3
           refine⟨i,_,true,hi,h3,hkk _ h8,by rw[h5,hS1];rfl,.inr ⟨hnl,hbg.symm,hne⟩,.inl ⟨rfl,by rw[h4,hS1];exact hoff,⟨rfl,rfl,rfl,Nat.succ_pos _,rfl⟩,?_,by rw[h6,hS1];simp only[Bool.toNat_true];omega,?_⟩⟩
           · rw[h3,List.set_set];rfl
           · intro hlt
             have hd:S1.ahead=S.ahead:=by rw[hS1];simp only[];unfold decA;rw[if_neg (by omega)]
             rw[h7 (by omega),hd]
         · rw[hp1,List.set_set] at h6
           refine⟨i,y,true,hi,h6,hkk _ h5,by rw[h4,hS1];rfl,.inr ⟨hnl,hbg.symm,hne⟩,.inr ⟨rfl,?_,h3,?_⟩⟩
           · have hd:S1.ahead=decA S.ahead:=by rw[hS1]
             unfold decA at hd
             split at hd<;>omega
           · rcases h7 with rfl | ⟨c,rfl⟩
             · exact .inl ⟨rfl,rfl,rfl,Nat.succ_pos _,rfl⟩
             · exact .inr (.inr ⟨rfl,c,rfl⟩)
   · left
     rw[if_neg hnx] at h
     simp only[if_true] at h
     injection h with h1 h2
     injection h2 with h2 h3
     exact⟨h1.symm,h2.symm,h3.symm,by simpa using hnx⟩
end
section
variable {L:List LK} {i:Nat} {y:LK}
theorem zg6 (L:List LK) (i j:Nat) (y:LK) (hi:i < L.length):(L.set i y).getD j lookZ=if j=i then y else L.getD j lookZ:=by
 rw[List.getD_eq_getElem?_getD,List.getD_eq_getElem?_getD,List.getElem?_set]
 by_cases h:i=j
 · subst h
   rw[if_pos rfl,if_pos hi,if_pos rfl]
   rfl
 · rw[if_neg h,if_neg (fun e=>h e.symm)]
theorem zg7 (S:FS) {j:Nat} (hj:j < (looksF S).length) (hc:0 < ((looksF S).getD j lookZ).cnt):((looksF S).getD j lookZ).m≤numJ (openJ S):= by
 rcases zgq (looksF S) with ⟨a,ha⟩ | ha
 · have h1:numJ (openJ S)=((looksF S).getD a lookZ).m:=by
    unfold numJ lastJ openJ
    rw[ha]
    rfl
   rw[h1]
   exact (zgo.1 ha).2.2.1 j hj hc
 · have:=zgp.1 ha j hj
   omega
theorem zg8 (hi:i < L.length) (hc:0 < y.cnt) (hm:∀ j,j < L.length→0 < (L.getD j lookZ).cnt→(L.getD j lookZ).m < y.m):newL (L.set i y)=(i,true):= by
 have hg:=fun j=>zg6 L i j y hi
 refine zgo.2 ⟨by rw[List.length_set];exact hi,by rw[hg,if_pos rfl];exact hc,?_,?_⟩
 · intro j hj hj2
   rw[List.length_set] at hj
   rw[hg i,if_pos rfl]
   by_cases h:j=i
   · subst h;rw[hg,if_pos rfl];exact Nat.le_refl _
   · rw[hg,if_neg h] at hj2 ⊢
     exact Nat.le_of_lt (hm j hj hj2)
 · intro j hj hj2
   rw[hg i,if_pos rfl]
   rw[hg,if_neg (by omega)] at hj2 ⊢
   exact hm j (by omega) hj2
theorem zg9 (hi:i < L.length) (c:Bool) (hy:y= { L.getD i lookZ with cl:=c }):newL (L.set i y)=newL L:=by
 have hg:∀ j,((L.set i y).getD j lookZ).cnt=(L.getD j lookZ).cnt∧((L.set i y).getD j lookZ).m=(L.getD j lookZ).m:=by
  intro j
  rw[zg6 L i j y hi]
  by_cases h:j=i
  · subst h;rw[if_pos rfl,hy];exact⟨rfl,rfl⟩
  · rw[if_neg h];exact⟨rfl,rfl⟩
 rcases zgq L with ⟨a,ha⟩ | ha
 · rw[ha]
   obtain⟨h1,h2,h3,h4⟩:= zgo.1 ha
   refine zgo.2 ⟨by rw[List.length_set];exact h1,by rw[(hg a).1];exact h2,?_,?_⟩
   · intro j hj hj2
     rw[List.length_set] at hj
     rw[(hg j).1] at hj2
     rw[(hg j).2,(hg a).2]
     exact h3 j hj hj2
   · intro j hj hj2
     rw[(hg j).1] at hj2
     rw[(hg j).2,(hg a).2]
     exact h4 j hj hj2
 · rw[ha]
   refine zgp.2 ?_
   intro j hj
   rw[List.length_set] at hj
   rw[(hg j).1]
   exact zgp.1 ha j hj
theorem zha (hi:i < L.length) (hc:y.cnt=0) (hn:newL L≠(i,true)):newL (L.set i y)=newL L:=by
 have hg:=fun j=>zg6 L i j y hi
 rcases zgq L with ⟨a,ha⟩ | ha
 · have hai:a≠i:=fun e=>hn (by rw[← e];exact ha)
   rw[ha]
   obtain⟨h1,h2,h3,h4⟩:= zgo.1 ha
   have hga:(L.set i y).getD a lookZ=L.getD a lookZ:=by rw[hg,if_neg hai]
   refine zgo.2 ⟨by rw[List.length_set];exact h1,by rw[hga];exact h2,?_,?_⟩
   · intro j hj hj2
     rw[List.length_set] at hj
     rw[hga]
     by_cases h:j=i
     · rw[hg,if_pos h] at hj2;omega
     · rw[hg,if_neg h] at hj2 ⊢
       exact h3 j hj hj2
   · intro j hj hj2
     rw[hga]
     by_cases h:j=i
     · rw[hg,if_pos h] at hj2;omega
     · rw[hg,if_neg h] at hj2 ⊢
       exact h4 j hj hj2
 · rw[ha]
   refine zgp.2 ?_
   intro j hj
   rw[List.length_set] at hj
   rw[hg]
   split
   · exact hc
   · exact zgp.1 ha j hj
end
def recS (S:FS):Int×Nat×List UInt8:=if (newL (looksF S)).2=true then (((looksF S).getD (newL (looksF S)).1 lookZ).k,((looksF S).getD (newL (looksF S)).1 lookZ).m,((looksF S).getD (newL (looksF S)).1 lookZ).d) else (0,0,[])
section
variable {S S':FS} {J':JS} {kd e:Int} {d:List UInt8} {i:Nat} {y:LK} {er:Bool}
theorem zhb (h:StepR S S' J' kd (numJ (openJ S)+1) d e i y er) :
 (newL (looksF S')=(i,true)∧ recS S'=(kd,numJ (openJ S)+1,d))∨ (e≠0∧newL (looksF S')=newL (looksF S)∧ recS S'=recS S∧ ¬ newRec y kd (numJ (openJ S)+1) d):= by
 have hi:i < (looksF S).length:=by rw[zgx];exact h.hi
 have hnew:newRec y kd (numJ (openJ S)+1) d→newL (looksF S')=(i,true)∧ recS S'=(kd,numJ (openJ S)+1,d):= by
  rintro⟨h1,h2,h3,h4,h5⟩
  have hn:newL (looksF S')=(i,true):= by
   rw[h.looks]
   refine zg8 hi h4 ?_
   intro j hj hc
   have:=zg7 S hj hc
   omega
  refine⟨hn,?_⟩
  unfold recS
  rw[hn]
  simp only[if_true]
  rw[h.looks,zg6 _ _ _ _ hi,if_pos rfl,h1,h2,h3]
 by_cases hN:newRec y kd (numJ (openJ S)+1) d
 · exact .inl (hnew hN)
 · right
   rcases h.ends with ⟨_,_,h3,_⟩ | ⟨he,_,_,h3⟩
   · exact absurd h3 hN
   · have hrec:newL (looksF S')=newL (looksF S)∧ (∀ a,newL (looksF S)=(a,true)→ ((looksF S').getD a lookZ).k=((looksF S).getD a lookZ).k∧((looksF S').getD a lookZ).m=((looksF S).getD a lookZ).m∧((looksF S').getD a lookZ).d=((looksF S).getD a lookZ).d):= by
      rcases h3 with h3 | ⟨c,h3⟩ | ⟨h3,c,h4⟩
      · exact absurd h3 hN
      · refine⟨by rw[h.looks];exact zg9 hi c h3,?_⟩
        intro a _
        rw[h.looks,zg6 _ _ _ _ hi]
        by_cases hai:a=i
        · rw[if_pos hai,h3,hai]
          exact⟨rfl,rfl,rfl⟩
        · rw[if_neg hai]
          exact⟨rfl,rfl,rfl⟩
      · have hne:newL (looksF S)≠ (i,true):= by
         rcases h.place with ⟨h5,_⟩ | ⟨_,_,h5⟩
         · rw[h3] at h5;cases h5
         · exact h5
        refine⟨by rw[h.looks];exact zha hi (by rw[h4]) hne,?_⟩
        intro a ha
        rw[h.looks,zg6 _ _ _ _ hi,if_neg (fun e=>hne (by rw[← e];exact ha))]
        exact⟨rfl,rfl,rfl⟩
     refine⟨by rw[he];decide,hrec.1,?_,hN⟩
     unfold recS
     rw[hrec.1]
     rcases zgq (looksF S) with ⟨a,ha⟩ | ha
     · rw[ha]
       simp only[if_true]
       obtain⟨e1,e2,e3⟩:= hrec.2 a ha
       rw[e1,e2,e3]
     · rw[ha]
       rfl
theorem zhc (h:StepR S S' J' kd (numJ (openJ S)+1) d 0 i y er):J'=openJ S':=by
 rcases h.ends with ⟨_,_,h3,h4,_⟩ | ⟨h0,_⟩
 · have hn:newL (looksF S')=(i,true):= by
    rw[h.looks]
    refine zg8 (by rw[zgx];exact h.hi) h3.2.2.2.1 ?_
    intro j hj hc
    have:=zg7 S hj hc
    have:=h3.2.1
    omega
   rw[h4]
   unfold openJ
   rw[hn]
 · cases h0
end
end
end Go.Proofs.YtehabbnohoomjaaGreatDoor
