/- None -/
import Derived.Test.YtehabbnohoomjaaGreatDoorP07
namespace Go.Proofs.YtehabbnohoomjaaGreatDoor
set_option linter.unusedVariables false
set_option linter.unusedSimpArgs false
set_option linter.unnecessarySimpa false
section
set_option maxHeartbeats 1000000
def put (l:List UInt8) (k:Nat) (B:List UInt8):List UInt8:=l.take k ++ (B ++ l.drop (k+B.length))
theorem zfs {l:List UInt8} {k:Nat} {B:List UInt8} (h:k+B.length≤l.length):(put l k B).length=l.length:=by
 unfold put
 rw[List.length_append,List.length_append,List.length_take,List.length_drop]
 omega
theorem zft {l:List UInt8} {k:Nat} {B:List UInt8} (h:k+B.length≤l.length) (j:Nat):(put l k B)[j]? =if j < k then l[j]? else if j < k+B.length then B[j - k]? else l[j]? :=by
 unfold put
 have ht:(l.take k).length=k:=by rw[List.length_take];omega
 split
 · rw[List.getElem?_append_left (by omega),List.getElem?_take,if_pos (by assumption)]
 · rename_i h1
   rw[List.getElem?_append_right (by omega),ht]
   split
   · rw[List.getElem?_append_left (by omega)]
   · rename_i h2
     rw[List.getElem?_append_right (by omega),List.getElem?_drop]
     congr 1
     omega
theorem zfu (l:List UInt8) (k:Nat):put l k []=l:=by unfold put;simp
theorem zfv {l:List UInt8} {k:Nat} {B:List UInt8} (h:k≤l.length):(put l k B).take k=l.take k:=by
 unfold put
 rw[List.take_append_of_le_length (by rw[List.length_take];omega),List.take_take,Nat.min_self]
theorem zfw {l:List UInt8} {k j:Nat} {B:List UInt8} (h:k+B.length≤l.length) (hj:k+B.length≤j):(put l k B).drop j=l.drop j:=by
 apply List.ext_getElem?
 intro i
 rw[List.getElem?_drop,List.getElem?_drop,zft h,if_neg (by omega),if_neg (by omega)]
def secB (b:List UInt8) (i:Nat):List UInt8:=(b.drop (1024 * i)).take 1024
theorem zfx {b:List UInt8} {i:Nat} (h:1024 * i+1024≤b.length):(secB b i).length=1024:=by unfold secB;rw[List.length_take,List.length_drop];omega
theorem zfy (b:List UInt8) (i j:Nat):(secB b i)[j]? =if j < 1024 then b[1024 * i+j]? else none:=by
 unfold secB
 rw[List.getElem?_take]
 split
 · rw[List.getElem?_drop]
 · rfl
theorem zfz {b:List UInt8} {i e:Nat} {B:List UInt8} (h:1024 * i+1024≤b.length) (he:e+B.length≤1024):secB (put b (1024 * i+e) B) i=put (secB b i) e B:=by
 apply List.ext_getElem?
 intro j
 rw[zfy,zft (l:=b) (by omega),zft (l:=secB b i) (by rw[zfx h];omega),zfy]
 by_cases h1:j < 1024
 · rw[if_pos h1,if_pos h1]
   by_cases h2:j < e
   · rw[if_pos h2,if_pos (by omega)]
   · rw[if_neg h2,if_neg (by omega)]
     by_cases h3:j < e+B.length
     · rw[if_pos h3,if_pos (by omega)]
       congr 1
       omega
     · rw[if_neg h3,if_neg (by omega)]
 · rw[if_neg h1,if_neg h1,if_neg (by omega),if_neg (by omega)]
theorem zf0 {b:List UInt8} {i e k:Nat} {B:List UInt8} (h:1024 * i+1024≤b.length) (he:e+B.length≤1024) (hk:k≠i):secB (put b (1024 * i+e) B) k=secB b k:=by
 apply List.ext_getElem?
 intro j
 rw[zfy,zfy,zft (by omega)]
 by_cases h1:j < 1024
 · rw[if_pos h1,if_pos h1]
   by_cases h2:1024 * k+j < 1024 * i+e
   · rw[if_pos h2]
   · rw[if_neg h2,if_neg (by omega)]
 · rw[if_neg h1,if_neg h1]
theorem zf1 {l l':List UInt8} {p k:Nat} (h:(recParse l p).er=0) (hk:p+(recParse l p).data.length+13≤k) (hl:l.take k=l'.take k):recParse l' p=recParse l p:=by
 obtain⟨h1,h2,h3,h4,h5,h6,h7⟩:= zfg l p _ rfl h
 obtain⟨⟨kd,num,d,to,er⟩,hP⟩:∃ P,P=recParse l p:=⟨_,rfl⟩
 rw[← hP] at h h1 h2 h4 h5 h6 h7 hk ⊢
 simp only[] at h h1 h2 h4 h5 h6 h7 hk
 subst h
 subst h7
 have hn:(recB kd num d).length=d.length+13:=by omega
 rw[hn] at h6
 have h4':p+d.length+13≤l.length:=by omega
 have hlen:p+d.length+13≤l'.length:=by
  have:=congrArg List.length hl
  rw[List.length_take,List.length_take] at this
  omega
 have hq:(l'.drop p).take (d.length+13)=recB kd num d:=by
  rw[← h6]
  simp only[Int.toNat_natCast]
  apply List.ext_getElem?
  intro j
  rw[List.getElem?_take,List.getElem?_take]
  split
  · rw[List.getElem?_drop,List.getElem?_drop]
    have:=congrArg (fun x=>x[p+j]?) hl
    simp only[List.getElem?_take] at this
    rw[if_pos (by omega),if_pos (by omega)] at this
    exact this.symm
  · rfl
 have e:l'=l'.take p ++ (recB kd num d ++ l'.drop (p+d.length+13)):= by
  rw[← hq,show p+d.length+13=p+(d.length+13) by omega,← List.drop_drop,List.take_append_drop,List.take_append_drop]
 have ht:(l'.take p).length=p:=by rw[List.length_take];omega
 obtain⟨hb,_⟩:= zfa (l'.take p) (l'.drop (p+d.length+13)) d kd num h2 h1
 rw[ht,← e] at hb
 exact hb
theorem zf2 (l:List UInt8) (f:Nat) (x:LK):x.en≤(lookF l f x).en:=by
 induction f generalizing x with
 | zero=>exact Nat.le_refl _
 | succ f ih=>
   rw[lookF]
   split
   · exact Nat.le_refl _
   · refine Nat.le_trans ?_ (ih _)
     simp only[]
     omega
theorem zf3 {l l':List UInt8} {k:Nat} (hk:l.take k=l'.take k):∀ (f:Nat) (x:LK),(lookF l f x).en≤k→ ∃ s,s≤f∧x.en+13 * s≤(lookF l f x).en∧ ∀ g,lookF l' (g+s) x=lookF l' g (lookF l f x):= by
 intro f
 induction f with
 | zero=>intro x _;exact⟨0,Nat.le_refl _,Nat.le_refl _,fun _=>rfl⟩
 | succ f ih=>
   intro x hx
   cases hs:stopB x (recParse l x.en)
   · have hg:=zfi (f:=f) hs
     rw[hg] at hx ⊢
     obtain⟨s,h1,h2,h3⟩:= ih _ hx
     have her:(recParse l x.en).er=0:=by
      simp only[stopB,Bool.or_eq_false_iff,decide_eq_false_iff_not] at hs
      exact Decidable.not_not.1 hs.1
     have hp:recParse l' x.en=recParse l x.en:=zf1 her (by have:=zf2 l f ⟨(recParse l x.en).kind,(recParse l x.en).num,(recParse l x.en).data,x.cnt+1,x.en+(recParse l x.en).data.length+13,false⟩;simp only[] at this;omega) hk
     refine⟨s+1,by omega,by simp only[] at h2;omega,?_⟩
     intro g
     rw[← h3 g,show g+(s+1)=(g+s)+1 by omega,zfi (by rw[hp];exact hs),hp]
   · rw[zfh hs] at hx ⊢
     exact⟨0,by omega,Nat.le_refl _,fun _=>rfl⟩
theorem zf4 {l l':List UInt8} (hlen:l'.length=l.length) (hk:l.take (lookE l).en=l'.take (lookE l).en):∃ g,l.length≤g+(lookE l).en∧lookE l'=lookF l' g (lookE l):= by
 obtain⟨s,h1,h2,h3⟩:= zf3 hk l.length lookZ (Nat.le_refl _)
 have h2':lookZ.en+13 * s≤(lookE l).en:=h2
 refine⟨l.length - s,by omega,?_⟩
 have h4:=h3 (l.length - s)
 rw[show l.length - s+s=l.length by omega] at h4
 unfold lookE
 rw[hlen]
 exact h4
theorem zf5 (l:List UInt8):(lookE l).en≤l.length:=by
 have h:∀ (f:Nat) (x:LK),x.en≤l.length→(lookF l f x).en≤l.length:=by
  intro f
  induction f with
  | zero=>intro x hx;exact hx
  | succ f ih=>
    intro x hx
    cases hs:stopB x (recParse l x.en)
    · rw[zfi hs]
      refine ih _ ?_
      have her:(recParse l x.en).er=0:=by
       simp only[stopB,Bool.or_eq_false_iff,decide_eq_false_iff_not] at hs
       exact Decidable.not_not.1 hs.1
      exact (zfj l x.en her).2.1
    · rw[zfh hs];exact hx
 exact h _ _ (Nat.zero_le _)
theorem zf6 {l:List UInt8} {k j:Nat} (h:blankB (l.drop k)=true) (hj:k≤j) (hl:j < l.length):l[j]? =some 255:=by
 have h1:=List.all_eq_true.1 h (l[j]) (by
  rw[List.mem_iff_getElem?]
  exact⟨j - k,by rw[List.getElem?_drop,show k+(j - k)=j by omega,List.getElem?_eq_getElem hl]⟩)
 rw[List.getElem?_eq_getElem hl]
 simpa using h1
theorem zf7 {l:List UInt8} {j:Nat} {c:UInt8} (h:l[j]? =some c):l.getD j 0=c:=by rw[List.getD_eq_getElem?_getD,h];rfl
theorem zf8 {l:List UInt8} {k:Nat} (hk:k≤l.length) (h:∀ c,l[k]? =some c→c.toNat≠87):(recParse l k).er≠0:=by
 rw[zeq _ k hk]
 by_cases h13:(l.drop k).length < 13
 · rw[zer h13];simp
 · have hlt:k < l.length:=by rw[List.length_drop] at h13;omega
   rw[zes (by omega)]
   · simp
   · rw[zf7 (l:=l.drop k) (j:=0) (c:=l[k]) (by rw[List.getElem?_drop,Nat.add_zero,List.getElem?_eq_getElem hlt])]
     exact h _ (List.getElem?_eq_getElem hlt)
theorem zf9 {x:LK} {p:PR} (h:p.er≠0):stopB x p=true:=by simp[stopB,h]
def follows (x:LK) (num:Nat):Prop:=x.cnt=0∨x.m≠4294967295∧num=x.m+1
theorem zgb {x:LK} {p:PR} (h:p.er=0) (hf:follows x p.num):stopB x p=false:=by
 unfold stopB
 rw[h]
 rcases hf with h1 | ⟨h1,h2⟩
 · rw[h1];rfl
 · rw[h2]
   simp[h1]
section
variable {l:List UInt8} {x:LK} {kd:Int} {num:Nat} {d:List UInt8}
theorem zgc (hx:lookL l=x):(lookE l).k=x.k∧(lookE l).m=x.m∧(lookE l).d=x.d∧(lookE l).cnt=x.cnt∧(lookE l).en=x.en∧blankB (l.drop x.en)=x.cl:=by
 subst hx
 exact⟨rfl,rfl,rfl,rfl,rfl,rfl⟩
theorem zgd (l:List UInt8):∀ (f:Nat) (x:LK),x.cl=false→(lookF l f x).cl=false:=by
 intro f
 induction f with
 | zero=>intro x h;exact h
 | succ f ih=>
   intro x h
   rw[lookF]
   split
   · exact h
   · exact ih _ rfl
theorem zge (hx:lookL l=x):lookE l=⟨x.k,x.m,x.d,x.cnt,x.en,false⟩:= by
 subst hx
 have:=zgd l l.length lookZ rfl
 unfold lookL
 simp only[]
 rw[show false=(lookE l).cl from this.symm]
theorem zgf (hx:lookL l=x) (hcl:x.cl=true) (hr:rightR kd num d.length=0) (hu:U32 num) (hf:follows x num) (hfit:x.en+d.length+13≤l.length) :
 lookL (put l x.en (recB kd num d))=⟨kd,num,d,x.cnt+1,x.en+d.length+13,true⟩:= by
 obtain⟨_,hBl⟩:= zfa [] [] d kd num hr hu
 obtain⟨_,_,_,_,hen,hbl⟩:= zgc hx
 have hE:=zge hx
 rw[hcl] at hbl
 have hlen:(put l x.en (recB kd num d)).length=l.length:=zfs (by rw[hBl];omega)
 have htk:l.take x.en=(put l x.en (recB kd num d)).take x.en:=(zfv (by omega)).symm
 obtain⟨g,hg1,hg2⟩:= zf4 hlen (by rw[hen];exact htk)
 have ht:(l.take x.en).length=x.en:=by rw[List.length_take];omega
 obtain⟨hp,_⟩:= zfa (l.take x.en) (l.drop (x.en+(recB kd num d).length)) d kd num hr hu
 rw[ht] at hp
 have hp':recParse (put l x.en (recB kd num d)) (x.en:Nat)=⟨kd,num,d,(x.en:Int)+d.length+13,0⟩:= hp
 obtain⟨g,rfl⟩:∃ g',g=g'+1:=⟨g - 1,by rw[hen] at hg1;omega⟩
 rw[hE] at hg2
 have hst:stopB ⟨x.k,x.m,x.d,x.cnt,x.en,false⟩ (recParse (put l x.en (recB kd num d)) (x.en:Nat))=false:=by
  rw[hp']
  exact zgb rfl hf
 rw[zfi hst,hp'] at hg2
 simp only[] at hg2
 have hdr:(put l x.en (recB kd num d)).drop (x.en+d.length+13)=l.drop (x.en+d.length+13):= zfw (by rw[hBl];omega) (by rw[hBl];omega)
 have hbl2:blankB (l.drop (x.en+d.length+13))=true:=by
  refine zd8 _ ?_
  intro j hj
  rw[List.length_drop] at hj
  have:=zf6 hbl (j:=x.en+d.length+13+j) (by omega) (by omega)
  rw[List.getElem?_eq_getElem (by omega)] at this
  injection this with this
  rw[List.getElem_drop,this]
  rfl
 have hs2:stopB ⟨kd,num,d,x.cnt+1,x.en+d.length+13,false⟩ (recParse (put l x.en (recB kd num d)) ((x.en+d.length+13:Nat):Int))=true:=by
  refine zf9 (zf8 (by omega) ?_)
  intro c hc
  have hc':l[x.en+d.length+13]? =some c:=by
   have:=congrArg (fun y=>y[0]?) hdr
   simp only[List.getElem?_drop,Nat.add_zero] at this
   rw[← this];exact hc
  have:=zf6 hbl (j:=x.en+d.length+13) (by omega) (List.getElem?_eq_some_iff.1 hc').1
  rw[hc'] at this
  injection this with this
  rw[this]
  decide
 rw[zfh hs2] at hg2
 unfold lookL
 rw[hg2]
 simp only[]
 rw[hdr,hbl2]
theorem zgg {k:Nat} (hbl:blankB (l.drop k)=true) (hr:rightR kd num d.length=0) (hu:U32 num) (hfit:k+d.length+13≤l.length) {t:Nat} (ht:t < d.length+13) {z y:UInt8} (hy:(recB kd num d)[t]? =some y) (hz:y.toNat≤z.toNat) :
 (recParse (put l k ((recB kd num d).take t ++ [z])) (k:Nat)).er≠0∨put l k ((recB kd num d).take t ++ [z])=put l k (recB kd num d):= by
 obtain⟨_,hBl⟩:= zfa [] [] d kd num hr hu
 obtain⟨k1,k2,k3,k4,k5⟩:= zed kd num d.length hr
 obtain⟨kn,rfl⟩:= Int.eq_ofNat_of_zero_le (show 0≤kd by omega)
 have hBy:=zec kn num d.length d rfl hr
 have hTl:((recB kn num d).take t ++ [z]).length=t+1:=by rw[List.length_append,List.length_take,hBl];simp;omega
 obtain⟨P,hP⟩:∃ P,P=put l k ((recB kn num d).take t ++ [z]):= ⟨_,rfl⟩
 have hPl:P.length=l.length:=by rw[hP];exact zfs (by rw[hTl];omega)
 have hg:∀ j,j < l.length - k→(P.drop k)[j]? =if j < t then (recB kn num d)[j]? else if j=t then some z else some 255:=by
  intro j hj
  rw[List.getElem?_drop,hP,zft (by rw[hTl];omega),if_neg (by omega),hTl]
  by_cases h1:j < t
  · rw[if_pos (by omega),if_pos h1,show k+j - k=j by omega,List.getElem?_append_left (by rw[List.length_take,hBl];omega),List.getElem?_take,if_pos h1]
  · rw[if_neg h1]
    by_cases h2:j=t
    · rw[if_pos (by omega),if_pos h2,show k+j - k=j by omega,List.getElem?_append_right (by rw[List.length_take,hBl];omega),List.length_take,hBl,show j - min t (d.length+13)=0 by omega]
      rfl
    · rw[if_neg h2,if_neg (by omega)]
      exact zf6 hbl (by omega) (by omega)
 by_cases her:(recParse P (k:Nat)).er=0
 · right
   rw[zeq _ k (by omega)] at her
   obtain⟨X,hX⟩:∃ X,X=P.drop k:=⟨_,rfl⟩
   rw[← hX] at her hg
   have hXl:X.length=l.length - k:=by rw[hX,List.length_drop];omega
   rcases zfe X k with ⟨e,h1,h2⟩ | ⟨a1,a2,a3,a4,a5,a6,a7⟩
   · rw[h2] at her
     exact absurd her h1
   · have hx3:recX3 X=(X.getD 6 0).toNat+256 * (X.getD 7 0).toNat:=by
      unfold recX3
      rw[List.drop_eq_getElem_cons (by omega),List.take_succ_cons,List.drop_eq_getElem_cons (by omega),List.take_succ_cons,List.take_zero]
      simp only[leN]
      rw[zez X 6 (by omega),zez X 7 (by omega)]
      have h67:(X[6+1]'(by omega))=X[7]'(by omega):= rfl
      rw[h67]
      omega
     have hn960:recX3 X≤960:=by
      simp only[fitsR,decide_eq_true_eq] at a3
      omega
     have g6:=hg 6 (by omega)
     have g7:=hg 7 (by omega)
     have b6:(recB kn num d)[6]? =some (UInt8.ofNat d.length):= by
      rw[hBy];rfl
     have b7:(recB kn num d)[7]? =some (UInt8.ofNat (d.length / 256)):= by
      rw[hBy];rfl
     have ht7:7≤t:=by
      rcases Nat.lt_or_ge t 7 with h | h
      · rw[if_neg (by omega),if_neg (by omega)] at g7
        rw[hx3,zf7 g7] at hn960
        have:(255:UInt8).toNat=255:=rfl
        omega
      · exact h
     rw[if_pos (by omega),b6] at g6
     have hge:d.length≤recX3 X:=by
      rw[hx3,zf7 g6]
      by_cases h7:t=7
      · rw[if_neg (by omega),if_pos h7.symm] at g7
        rw[zf7 g7]
        subst h7
        rw[b7] at hy
        injection hy with hy
        subst hy
        simp only[UInt8.toNat_ofNat'] at hz ⊢
        omega
      · rw[if_pos (by omega),b7] at g7
        rw[zf7 g7]
        simp only[UInt8.toNat_ofNat']
        omega
     have gc:=hg (recX3 X+12) (by omega)
     rcases Nat.lt_trichotomy (recX3 X+12) t with h | h | h
     · omega
     · rw[if_neg (by omega),if_pos h] at gc
       rw[zf7 gc] at a6
       have htd:t=d.length+12:=by omega
       have hz0:z=0:=UInt8.toNat.inj a6
       congr 1
       rw[hz0,hBy,htd]
       have hsl:(sealL (recH kn num d.length ++ d)).length=d.length+12:=by rw[zdt,List.length_append,zee];omega
       rw[← hsl,List.take_left]
     · rw[if_neg (by omega),if_neg (by omega)] at gc
       rw[zf7 gc] at a6
       exact absurd a6 (by decide)
 · left
   rw[← hP]
   exact her
theorem zgh (hx:lookL l=x) (hcl:x.cl=true) (hr:rightR kd num d.length=0) (hu:U32 num) (hf:follows x num) (hfit:x.en+d.length+13≤l.length) {t:Nat} (ht:t < d.length+13) {z y:UInt8} (hy:(recB kd num d)[t]? =some y) (hz:y.toNat≤z.toNat) :
 lookL (put l x.en ((recB kd num d).take t ++ [z]))=⟨kd,num,d,x.cnt+1,x.en+d.length+13,true⟩∨ ∃ c,lookL (put l x.en ((recB kd num d).take t ++ [z]))= { x with cl:=c }:= by
 obtain⟨_,hBl⟩:= zfa [] [] d kd num hr hu
 obtain⟨_,_,_,_,hen,hbl⟩:= zgc hx
 rw[hcl] at hbl
 rcases zgg hbl hr hu hfit ht hy hz with h | h
 · right
   have hTl:((recB kd num d).take t ++ [z]).length=t+1:=by rw[List.length_append,List.length_take,hBl];simp;omega
   have hlen:(put l x.en ((recB kd num d).take t ++ [z])).length=l.length:=zfs (by rw[hTl];omega)
   obtain⟨g,hg1,hg2⟩:= zf4 hlen (by rw[hen];exact (zfv (by omega)).symm)
   rw[zge hx,zfh (x:=⟨x.k,x.m,x.d,x.cnt,x.en,false⟩) (zf9 h)] at hg2
   refine⟨blankB ((put l x.en ((recB kd num d).take t ++ [z])).drop x.en),?_⟩
   unfold lookL
   rw[hg2]
 · left
   rw[h]
   exact zgf hx hcl hr hu hf hfit
end
theorem zgi (l:List UInt8) (n:Nat) (h0:0 < n) (hn:n≤l.length):∃ c,lookL (put l 0 (List.replicate n 255))=⟨0,0,[],0,0,c⟩∧ (n=l.length→c=true):= by
 have hlen:(put l 0 (List.replicate n 255)).length=l.length:=zfs (by simp;omega)
 have hE:lookE (put l 0 (List.replicate n 255))=lookZ:=by
  unfold lookE
  refine zfh (zf9 (zf8 (k:=0) (Nat.zero_le _) ?_))
  intro c hc
  rw[zft (by simp;omega),if_neg (by omega),if_pos (by simp;omega),List.getElem?_replicate,if_pos (by omega)] at hc
  injection hc with hc
  subst hc
  decide
 refine⟨blankB ((put l 0 (List.replicate n 255)).drop 0),?_,?_⟩
 · unfold lookL
   rw[hE]
   rfl
 · intro hnl
   refine zd8 _ ?_
   intro j hj
   rw[List.drop_zero] at hj
   have:(put l 0 (List.replicate n 255))[j]? =some 255:=by
    rw[zft (by simp;omega),if_neg (by omega),if_pos (by simp;omega),List.getElem?_replicate,if_pos (by omega)]
   rw[List.getElem_drop]
   have h2:=List.getElem?_eq_getElem (l:=put l 0 (List.replicate n 255)) (i:=j) (by omega)
   rw[this] at h2
   injection h2 with h2
   simp only[Nat.zero_add]
   rw[← h2]
   rfl
end
end Go.Proofs.YtehabbnohoomjaaGreatDoor
