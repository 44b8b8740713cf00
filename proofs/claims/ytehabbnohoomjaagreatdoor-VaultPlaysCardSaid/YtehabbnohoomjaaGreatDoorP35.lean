/- None -/
import Derived.Test.YtehabbnohoomjaaGreatDoorP32
import Derived.Test.YtehabbnohoomjaaGreatDoorP34
namespace Go.Proofs.YtehabbnohoomjaaGreatDoor
set_option linter.unusedVariables false
set_option linter.unusedSimpArgs false
set_option linter.unnecessarySimpa false
section
open Go.RowKit
set_option maxRecDepth 100000
set_option maxHeartbeats 4000000
def lightE (E:Ent):Bool:=decide (E.df.length≤1000) && decide (E.nm.size≤1000)
def lightL (L:List Ent):Bool:=decide (L.length≤200) && L.all lightE
theorem zt7 {L:List Ent} (h:lightL L=true):∀ E ∈ L,fitE E:=by
 intro E hE
 simp only[lightL,Bool.and_eq_true,List.all_eq_true] at h
 have:=h.2 E hE
 simp only[lightE,Bool.and_eq_true,decide_eq_true_eq] at this
 exact⟨by omega,by omega⟩
theorem zt8 {L:List Ent} (h:lightL L=true):L.length≤200:=by
 simp only[lightL,Bool.and_eq_true,decide_eq_true_eq] at h
 exact h.1
theorem zt9 (A:Option Addr) (n c:Nat) (L:List Ent) (w:World) (hn:n=L.length) (hL:SlE w A L) :
 Calls Tryz.prog 35 #[.slice A n c] w fun e w'=>e= .returned (.bool (lightL L))∧ w=w':=by
 have HN:=zak hn
 have HL:=zak hL
 by_cases hbig:200 < n
 · have HR:Hid (lightL L=false):= zak (by simp[lightL];omega)
   clear hn hL
   go_enter Tryz.func35,Tryz.ntmps35
   go_wp2_with fail
   go_ret
   exact⟨za1 HR.out.symm,rfl⟩
 clear hn hL
 go_enter Tryz.func35,Tryz.ntmps35
 go_wp2_with fail
 go_loopw [3] (fun i wr=> ∃ k,k≤n∧i= .int .i64 (k:Nat)∧ Hid (∀ E ∈ L.take k,lightE E=true)∧ w=wr) (fun i _=>n - (intOf i).toNat)
 case atStart=>exact⟨0,by omega,rfl,zak (by simp),rfl⟩
 case round=>
  obtain⟨k,hk,rfl,HA,rfl⟩:= hrel
  by_cases hlt:k < n
  · obtain⟨E,hE⟩:∃ E,L[k]? =some E:=⟨L[k]'(by rw[← HN.out];exact hlt),List.getElem?_eq_getElem _⟩
    obtain⟨b,off,Aj,cj,rfl,⟨c0,c1,c2,c3,c4,c5,c6,c7,c8,c9,c10⟩,hcj,hsj⟩:= HL.out k E hE
    have HT:=zak (zto hE)
    have HM:=zak (List.mem_of_getElem? hE)
    clear c0 c1 c3 c4 c5 c6 c7 c8 c9 hcj hsj hE
    obtain⟨m,hm⟩:∃ m,m=E.df.length:=⟨_,rfl⟩
    rw[← hm] at c10
    have HMM:=zak hm
    clear hm
    by_cases h1:1000 < m
    · have HR:Hid (lightL L=false):= zak (by
       have:L.all lightE=false:=by rw[List.all_eq_false];exact⟨E,HM.out,by simp[lightE,← HMM.out];omega⟩
       simp[lightL,this])
      go_wp2_with fail
      go_ret
      exact⟨za1 HR.out.symm,rfl⟩
    by_cases h2:1000 < E.nm.size
    · have HR:Hid (lightL L=false):= zak (by
       have:L.all lightE=false:=by rw[List.all_eq_false];exact⟨E,HM.out,by simp[lightE];omega⟩
       simp[lightL,this])
      go_wp2_with fail
      go_ret
      exact⟨za1 HR.out.symm,rfl⟩
    · have HR:Hid (∀ D ∈ L.take (k+1),lightE D=true):= zak (by
       intro D hD
       rw[HT.out,List.mem_append,List.mem_singleton] at hD
       rcases hD with hD | rfl
       · exact HA.out D hD
       · simp[lightE,← HMM.out];omega)
      go_wp2_with fail
      go_roundw
      case rel=>exact⟨k+1,by omega,by go_num,HR,by trivial⟩
      case measure=>simp[intOf];omega
  · have HR:Hid (lightL L=true):= zak (by
     have h1:=HA.out
     rw[List.take_of_length_le (by rw[← HN.out];omega)] at h1
     simp only[lightL,Bool.and_eq_true,decide_eq_true_eq,List.all_eq_true]
     exact⟨by rw[← HN.out];omega,h1⟩)
    go_wp2_with fail
    go_ret
    exact⟨za1 HR.out.symm,rfl⟩
end
section
open Go.RowKit
set_option maxRecDepth 20000
set_option maxHeartbeats 1000000
def lightB (L:List SV):Bool:=decide (L.length≤200∧ ∀ v ∈ L,v.data.length≤2000)
end
section
open Go.RowKit
set_option maxRecDepth 100000
set_option maxHeartbeats 4000000
def pokeAll (L:List Ent) (V:List (List UInt8)) (X:List SV):List (List UInt8):= X.foldl (fun V v=>putV L V v.ix v.sub v.data true) V
theorem zua {L:List Ent} {V:List (List UInt8)} {X:List SV} {k:Nat} {v:SV} (h:X[k]? =some v):pokeAll L V (X.take (k+1))=putV L (pokeAll L V (X.take k)) v.ix v.sub v.data true:=by
 obtain⟨hk,rfl⟩:= List.getElem?_eq_some_iff.1 h
 unfold pokeAll
 rw[List.take_succ_eq_append_getElem hk,List.foldl_append]
 rfl
theorem zub {F:Nat→Prop} {w w':World} (h:zcj F w.drew w'):zcj F w w':=⟨h.os,h.tape,h.output,h.size,h.block⟩
theorem zuc {L:List Ent} {a:Int} (h:NewP L 0 a):SortedE L:=by
 rcases h with ⟨_,h,_⟩ | ⟨_,h,_⟩ | ⟨_,_,_,h⟩
 · omega
 · exact absurd rfl h
 · exact zps _ L rfl h
def MadeR (L:List Ent) (X:List SV) (w:World) (e:Ending) (w':World):Prop:=
 ∃ vd vr ok,e= .returned (.tuple #[vd,vr,.bool ok])∧ (ok=true→ ∃ p pr,vd= .pointer (some ⟨p,0,none⟩)∧ vr= .pointer (some ⟨pr,0,none⟩)∧ TwoD w.heap.size (fun _=>False) L (pokeAll L (L.map Ent.df) X) pr w' p∧SortedE L∧lightL L=true∧lightB X=true∧ ∀ E ∈ L,rightE E=0)∧
  (ok=false→vd= .pointer none∧vr= .pointer none)∧ Below w.heap.size w w'
end
section
open Go.RowKit
set_option maxRecDepth 100000
set_option maxHeartbeats 4000000
def cntG (X:List SV):Nat→Nat
 | 0=>0
 | k+1=>cntG X k+(if 2≤k then (X.filter (fun v=>inE v.ix k)).length else 0)
theorem zud (L:List Ent) (V:List (List UInt8)) (g:Int):(ofV L V g).length≤L.length:=by
 induction L generalizing V with
 | nil=>cases V<;>simp[ofV]
 | cons E L ih=>
   cases V with
   | nil=>simp[ofV]
   | cons u V=>
     have:=ih V
     rw[ofV]
     split<;>simp<;>omega
end
section
set_option maxHeartbeats 1000000
def ahV (u v:SV):Bool:=aheadB u.ix u.sub v.ix v.sub
def placeE (u v:SV):Prop:=u.ix=v.ix∧u.sub=v.sub
theorem zue (u v:SV):ahV u v=true ↔ (u.ix < v.ix∨u.ix=v.ix∧u.sub < v.sub):= by simp[ahV,aheadB]
theorem zuf (u:SV):ahV u u=false:=by
 cases h:ahV u u
 · rfl
 · rw[zue] at h;omega
theorem zug {u v:SV}:ahV u v=false ↔ ¬ (u.ix < v.ix∨u.ix=v.ix∧u.sub < v.sub):= by
 rw[← zue];simp
def insV:List SV→SV→List SV
 | [],v=> [v]
 | u :: L,v=>if ahV u v=true then u :: insV L v else if ahV v u=true then v :: u :: L else v :: L
def SortV (L:List SV):Prop:=L.Pairwise (fun u v=>ahV u v=true)
def OnceV (L:List SV):Prop:=L.Pairwise (fun u v=> ¬ placeE u v)
theorem zuh {L:List SV} (h:SortV L) (u v:SV):u ∈ insV L v ↔ u=v∨(u ∈ L∧ ¬ placeE u v):= by
 induction L with
 | nil=>simp[insV]
 | cons x L ih=>
   have hx:=List.pairwise_cons.1 h
   rw[insV]
   split
   · rename_i h1
     rw[zue] at h1
     rw[List.mem_cons,ih hx.2,List.mem_cons]
     constructor
     · rintro (rfl | rfl | ⟨h2,h3⟩)
       · exact .inr ⟨.inl rfl,fun e=>by unfold placeE at e;omega⟩
       · exact .inl rfl
       · exact .inr ⟨.inr h2,h3⟩
     · rintro (rfl | ⟨rfl | h2,h3⟩)
       · exact .inr (.inl rfl)
       · exact .inl rfl
       · exact .inr (.inr ⟨h2,h3⟩)
   · rename_i h1
     have far:∀ y ∈ L,¬ placeE y v∧ahV v y=true:=by
      intro y hy
      have h2:=hx.1 y hy
      rw[zue] at h1 h2
      rw[zue]
      unfold placeE
      omega
     split
     · rename_i h2
       rw[zue] at h2
       rw[List.mem_cons,List.mem_cons]
       constructor
       · rintro (rfl | rfl | h3)
         · exact .inl rfl
         · exact .inr ⟨.inl rfl,fun e=>by unfold placeE at e;omega⟩
         · exact .inr ⟨.inr h3,(far _ h3).1⟩
       · rintro (rfl | ⟨h3,_⟩)
         · exact .inl rfl
         · exact .inr h3
     · rename_i h2
       rw[List.mem_cons,List.mem_cons]
       have hp:placeE x v:=by
        rw[zue] at h1 h2
        unfold placeE
        omega
       constructor
       · rintro (rfl | h3)
         · exact .inl rfl
         · exact .inr ⟨.inr h3,(far _ h3).1⟩
       · rintro (rfl | ⟨rfl | h3,h4⟩)
         · exact .inl rfl
         · exact absurd hp h4
         · exact .inr h3
theorem zui {L:List SV} (h:SortV L) (v:SV):SortV (insV L v):= by
 induction L with
 | nil=>exact List.pairwise_cons.2 ⟨by simp,List.Pairwise.nil⟩
 | cons x L ih=>
   have hx:=List.pairwise_cons.1 h
   rw[insV]
   split
   · rename_i h1
     refine List.pairwise_cons.2 ⟨?_,ih hx.2⟩
     intro y hy
     rcases (zuh hx.2 y v).1 hy with rfl | ⟨h2,_⟩
     · exact h1
     · exact hx.1 y h2
   · rename_i h1
     have far:∀ y ∈ L,ahV v y=true:=by
      intro y hy
      have h2:=hx.1 y hy
      rw[zue] at h1 h2
      rw[zue]
      omega
     split
     · rename_i h2
       refine List.pairwise_cons.2 ⟨?_,h⟩
       intro y hy
       rcases List.mem_cons.1 hy with rfl | hy
       · exact h2
       · exact far y hy
     · exact List.pairwise_cons.2 ⟨far,hx.2⟩
theorem zuj {L:List SV} {v:SV}:∀ {i:Nat},i≤L.length→(∀ j u,j < i→L[j]? =some u→ahV u v=true)→ (∀ u,L[i]? =some u→ahV u v=false)→
 insV L v=L.take i ++ v :: (if (∃ u,L[i]? =some u∧ahV v u=false) then L.drop (i+1) else L.drop i):= by
 induction L with
 | nil=>
   intro i hi _ _
   have:i=0:=by simpa using hi
   subst this
   simp[insV]
 | cons x L ih=>
   intro i hi h1 h2
   cases i with
   | zero=>
     have hx:=h2 x rfl
     rw[insV,if_neg (by rw[hx];decide)]
     cases hv:ahV v x
     · rw[if_neg (by decide),if_pos ⟨x,rfl,hv⟩]
       rfl
     · rw[if_pos rfl,if_neg (by rintro⟨u,e,h⟩;injection e with e;subst e;rw[hv] at h;cases h)]
       rfl
   | succ i=>
     have hx:=h1 0 x (by omega) rfl
     rw[insV,if_pos hx,ih (i:=i) (by simpa using hi) (fun j u hj hu=>h1 (j+1) u (by omega) (by simpa using hu)) (fun u hu=>h2 u (by simpa using hu))]
     simp
theorem zuk {X:List SV}:∀ {L:List SV},SortV L→OnceV X→SortV (X.foldl insV L)∧ ∀ u,u ∈ X.foldl insV L ↔ u ∈ X∨(u ∈ L∧ ∀ v ∈ X,¬ placeE u v):= by
 induction X with
 | nil=>intro L hL _;exact⟨hL,fun u=>by simp⟩
 | cons v X ih=>
   intro L hL hX
   have hx:=List.pairwise_cons.1 hX
   obtain⟨h1,h2⟩:= ih (zui hL v) hx.2
   refine⟨h1,fun u=>?_⟩
   rw[List.foldl_cons,h2,zuh hL,List.mem_cons]
   constructor
   · rintro (h3 | ⟨rfl | ⟨h3,h4⟩,h5⟩)
     · exact .inl (.inr h3)
     · exact .inl (.inl rfl)
     · exact .inr ⟨h3,fun w hw=>by rcases List.mem_cons.1 hw with rfl | hw;exact h4;exact h5 w hw⟩
   · rintro ((rfl | h3) | ⟨h3,h4⟩)
     · exact .inr ⟨.inl rfl,fun w hw=>hx.1 w hw⟩
     · exact .inl h3
     · exact .inr ⟨.inr ⟨h3,h4 v (by simp)⟩,fun w hw=>h4 w (by simp[hw])⟩
def joinV (a b:List SV):List SV:=b.foldl insV (a.foldl insV [])
theorem zul {a b:List SV} (ha:OnceV a) (hb:OnceV b):SortV (joinV a b)∧ ∀ u,u ∈ joinV a b ↔ u ∈ b∨(u ∈ a∧ ∀ v ∈ b,¬ placeE u v):= by
 obtain⟨h1,h2⟩:= zuk (L:= []) List.Pairwise.nil ha
 obtain⟨h3,h4⟩:= zuk h1 hb
 refine⟨h3,fun u=>?_⟩
 rw[joinV,h4,h2]
 simp
theorem zum:∀ {L M:List SV},SortV L→SortV M→(∀ u,u ∈ L ↔ u ∈ M)→ L=M:=by
 intro L
 induction L with
 | nil=>
   intro M _ _ h
   cases M with
   | nil=>rfl
   | cons m M=>have:=(h m).2 (by simp);simp at this
 | cons x L ih=>
   intro M hL hM h
   cases M with
   | nil=>have:=(h x).1 (by simp);simp at this
   | cons m M=>
     have hl:=List.pairwise_cons.1 hL
     have hm:=List.pairwise_cons.1 hM
     have hxm:x=m:=by
      rcases List.mem_cons.1 ((h x).1 (by simp)) with e | e
      · exact e
      · rcases List.mem_cons.1 ((h m).2 (by simp)) with e2 | e2
        · exact e2.symm
        · have h1:=hm.1 x e
          have h2:=hl.1 m e2
          rw[zue] at h1 h2
          omega
     subst hxm
     rw[ih hl.2 hm.2 ?_]
     intro u
     constructor
     · intro hu
       rcases List.mem_cons.1 ((h u).1 (by simp[hu])) with rfl | e
       · have:=hl.1 u hu
         rw[zuf] at this;cases this
       · exact e
     · intro hu
       rcases List.mem_cons.1 ((h u).2 (by simp[hu])) with rfl | e
       · have:=hm.1 u hu
         rw[zuf] at this;cases this
       · exact e
def svZ:SV:=⟨0,0,[]⟩
def minF (L:List SV):Nat→Nat
 | 0=>0
 | i+1=>if ahV (L.getD i svZ) (L.getD (minF L i) svZ)=true then i else minF L i
theorem zun (L:List SV) (n:Nat) (hn:1≤n):minF L n < n∧ ∀ j,j < n→ahV (L.getD j svZ) (L.getD (minF L n) svZ)=false:=by
 induction n with
 | zero=>omega
 | succ n ih=>
   rw[minF]
   rcases Nat.eq_zero_or_pos n with rfl | hp
   · rw[minF,if_neg (by rw[zuf];decide)]
     refine⟨by omega,?_⟩
     intro j hj
     obtain rfl:j=0:=by omega
     exact zuf _
   · obtain⟨h1,h2⟩:= ih hp
     split
     · rename_i h3
       refine⟨by omega,?_⟩
       intro j hj
       rcases Nat.lt_or_ge j n with hjn | hjn
       · have h4:=h2 j hjn
         rw[zug] at h4 ⊢
         rw[zue] at h3
         omega
       · obtain rfl:j=n:=by omega
         exact zuf _
     · rename_i h3
       refine⟨by omega,?_⟩
       intro j hj
       rcases Nat.lt_or_ge j n with hjn | hjn
       · exact h2 j hjn
       · obtain rfl:j=n:=by omega
         simpa using h3
def selV:Nat→List SV→List SV
 | 0,_=> []
 | f+1,L=>if L.length=0 then [] else L.getD (minF L L.length) svZ :: selV f (L.take (minF L L.length) ++ L.drop (minF L L.length+1))
theorem zuo:∀ (f:Nat) {L:List SV},L.length≤f→OnceV L→SortV (selV f L)∧ ∀ u,u ∈ selV f L ↔ u ∈ L:=by
 intro f
 induction f with
 | zero=>
   intro L h _
   have:L= []:= List.eq_nil_of_length_eq_zero (by omega)
   subst this
   exact⟨List.Pairwise.nil,fun u=>Iff.rfl⟩
 | succ f ih=>
   intro L h hO
   rw[selV]
   split
   · rename_i h0
     have:L= []:= List.eq_nil_of_length_eq_zero h0
     subst this
     exact⟨List.Pairwise.nil,fun u=>Iff.rfl⟩
   · rename_i h0
     obtain⟨k,hk⟩:∃ k,k=minF L L.length:=⟨_,rfl⟩
     obtain⟨m1,m2⟩:= zun L L.length (by omega)
     rw[← hk] at m1 m2 ⊢
     have hg:L.getD k svZ=L[k]:= by rw[List.getD_eq_getElem?_getD,List.getElem?_eq_getElem m1];rfl
     have hL:L=L.take k ++ L[k] :: L.drop (k+1):= by rw[List.getElem_cons_drop,List.take_append_drop]
     have hlen:(L.take k ++ L.drop (k+1)).length≤f:=by simp;omega
     obtain⟨T,hT⟩:∃ T,T=L.take k:=⟨_,rfl⟩
     obtain⟨D,hD⟩:∃ D,D=L.drop (k+1):= ⟨_,rfl⟩
     obtain⟨x,hx⟩:∃ x,x=L[k]:= ⟨_,rfl⟩
     rw[← hx] at hg
     rw[← hT,← hD] at hlen ⊢
     rw[← hT,← hD,← hx] at hL
     clear hT hD hx
     have hpw:=hO
     unfold OnceV at hpw
     rw[hL] at hpw
     obtain⟨p1,p2,p3⟩:= List.pairwise_append.1 hpw
     obtain⟨p4,p5⟩:= List.pairwise_cons.1 p2
     have hrest:OnceV (T ++ D):= List.pairwise_append.2 ⟨p1,p5,fun u hu v hv=>p3 u hu v (by simp[hv])⟩
     obtain⟨s1,s2⟩:= ih (L:=T ++ D) hlen hrest
     rw[hg] at m2 ⊢
     refine⟨List.pairwise_cons.2 ⟨?_,s1⟩,?_⟩
     · intro u hu
       have hu2:=(s2 u).1 hu
       have hne: ¬ placeE u x:=by
        rcases List.mem_append.1 hu2 with h1 | h1
        · exact p3 u h1 _ (by simp)
        · intro e
          exact p4 u h1 ⟨e.1.symm,e.2.symm⟩
       have huL:u ∈ L:=by
        rw[hL]
        rcases List.mem_append.1 hu2 with h1 | h1
        · simp[h1]
        · simp[h1]
       obtain⟨j,hj,hju⟩:= List.mem_iff_getElem.1 huL
       have h3:=m2 j hj
       rw[List.getD_eq_getElem?_getD,List.getElem?_eq_getElem hj] at h3
       simp only[Option.getD_some] at h3
       rw[hju,zug] at h3
       rw[zue]
       unfold placeE at hne
       omega
     · intro u
       rw[List.mem_cons,s2]
       conv=>rhs;rw[hL]
       simp only[List.mem_append,List.mem_cons]
       constructor
       · rintro (h | h | h)
         · exact .inr (.inl h)
         · exact .inl h
         · exact .inr (.inr h)
       · rintro (h | h | h)
         · exact .inr (.inl h)
         · exact .inl h
         · exact .inr (.inr h)
def metB (b:List SV) (u:SV):Bool:=b.any fun v=>decide (v.ix=u.ix) && decide (v.sub=u.sub)
def restV (a b:List SV):List SV:=a.filter fun u=>!metB b u
theorem zup {a b:List SV} (ha:OnceV a) (hb:OnceV b):selV (restV a b ++ b).length (restV a b ++ b)=joinV a b:=by
 have hm:∀ u,metB b u=false ↔ ∀ v ∈ b,¬ placeE u v:=by
  intro u
  unfold metB placeE
  rw[List.any_eq_false]
  constructor
  · intro h v hv e
    have:=h v hv
    simp[e.1.symm,e.2.symm] at this
  · intro h v hv
    have:=h v hv
    simp only[Bool.and_eq_true,decide_eq_true_eq]
    rintro⟨e1,e2⟩
    exact this ⟨e1.symm,e2.symm⟩
 have hr:∀ u,u ∈ restV a b ↔ u ∈ a∧ ∀ v ∈ b,¬ placeE u v:=by
  intro u
  unfold restV
  rw[List.mem_filter,← hm]
  simp
 have hO:OnceV (restV a b ++ b):= List.pairwise_append.2 ⟨List.Pairwise.filter _ ha,hb,fun u hu v hv=>((hr u).1 hu).2 v hv⟩
 obtain⟨s1,s2⟩:= zuo _ (Nat.le_refl _) hO
 obtain⟨j1,j2⟩:= zul ha hb
 refine zum s1 j1 (fun u=>?_)
 rw[s2,j2,List.mem_append,hr]
 exact Or.comm
theorem zuq (a b:List SV):(joinV a b).length≤a.length+b.length:=by
 have h1:∀ (L:List SV) (v:SV),(insV L v).length≤L.length+1:=by
  intro L v
  induction L with
  | nil=>simp[insV]
  | cons x L ih=>
    rw[insV]
    split
    · simp;omega
    · split<;>simp
 have h2:∀ (X L:List SV),(X.foldl insV L).length≤L.length+X.length:=by
  intro X
  induction X with
  | nil=>intro L;simp
  | cons v X ih=>intro L;have:=ih (insV L v);have:=h1 L v;simp;omega
 have h3:=h2 a []
 have h4:=h2 b (a.foldl insV [])
 unfold joinV
 simp at h3
 omega
end
section
open Go.RowKit
set_option maxRecDepth 20000
set_option maxHeartbeats 2000000
section
variable {P:Program} (w:World)
theorem zur (k:Nat) (dT sT ty elem:TypeId) (g o dLen dCap:Nat) (a:Addr) (sLen sCap:Nat) (cur:Array Value) (t:TypeId) (cs:List Value)
 (hu:P.underlying dT=some (.slice elem)) (hs:(P.info? elem).map (·.size)=some k)
 (hg:w.heap[g]? =some (.cells cur t (0,0))) (hn:cs.length=Nat.min sLen dLen * k)
 (hsrc:∀ j v,cs[j]? =some v→w.cell? (a.add j)=some v) (hfit:o+cs.length≤cur.size) (h1:∀ v ∈ cs,v.oneCell'=true) :
 (Builtin.copy_ #[dT,sT] ty #[.slice (some ⟨g,o,none⟩) dLen dCap,.slice (some a) sLen sCap]).run P w =
   .ok (goInt (Nat.min sLen dLen)) (w.setRow g (cur.toList.take o ++ cs ++ cur.toList.drop (o+cs.length)).toArray):= by
 have hl:=run_loadCells_list (P:=P) w a cs hsrc
 have hst:=run_storeCells_at P g o t cs 0 cur w hg (by simpa using hfit) h1
 cases hq:P.info? elem with
 | none=>simp[hq] at hs
 | some i=>
   have hi:i.size=k:=by simpa [hq] using hs
   rw[hn] at hl
   rw[Nat.add_zero] at hst
   simp[Builtin.copy_,run_underlying hu,Builtin.lenOf,Builtin.firstCells,sizeOf,typeInfo,hq,hi,hl,hst]
theorem zus (k:Nat) (dT sT ty elem:TypeId) (d a:Option Addr) (dLen dCap sLen sCap:Nat) (hu:P.underlying dT=some (.slice elem)) (hs:(P.info? elem).map (·.size)=some k) (hn:Nat.min sLen dLen=0) :
 (Builtin.copy_ #[dT,sT] ty #[.slice d dLen dCap,.slice a sLen sCap]).run P w= .ok (goInt 0) w:=by
 cases hq:P.info? elem with
 | none=>simp[hq] at hs
 | some i=>
   have hl:∀ (x:Addr),(loadCells x 0).run P w= .ok #[] w:=fun x=>by simpa using run_loadCells_list (P:=P) w x [] (by simp)
   cases d<;>cases a<;>simp[Builtin.copy_,run_underlying hu,Builtin.lenOf,Builtin.firstCells,sizeOf,typeInfo,hq,hn,hl,storeCells]
end
theorem zut:(Tryz.prog.info? 52).map (·.size)=some 3:=by kernel_rfl
theorem zuu {o:Oper} {a:Act} {K:Act→World→Prop} {Q:Exit→Act→World→Prop} {w:World} (d s:Operand) (ho:o.op= .call { callee:= .builtin .copy,args:= #[d,s],argTypes:= #[27,27] })
 (B g N c:Nat) (xs:List Value) (hown:Own w B 52 3 (some ⟨g,0,none⟩) N c xs) (dp sp:Option Addr) (dLen dCap sLen sCap:Nat) (hd:a.eval d= .slice dp dLen dCap) (hs:a.eval s= .slice sp sLen sCap)
 (off:Nat) (cs:List Value) (hn:cs.length=Nat.min sLen dLen * 3) (hpos:0 < cs.length→dp=some ⟨g,off,none⟩∧ ∃ ad,sp=some ad∧ ∀ j v,cs[j]? =some v→w.cell? (ad.add j)=some v)
 (hfit:off+cs.length≤xs.length) (h1:∀ v ∈ cs,v.oneCell'=true)
 (h:∀ w',Own w' B 52 3 (some ⟨g,0,none⟩) N c (xs.take off ++ (cs ++ xs.drop (off+cs.length)))→ w.grownBy w' (some g)→ K (a.put o.dst (goInt (Nat.min sLen dLen))) w'):Oper.wp Tryz.prog o a w K Q:=by
 by_cases h0:cs.length=0
 · obtain rfl:cs= []:= List.eq_nil_of_length_eq_zero h0
   have hm:Nat.min sLen dLen=0:=by simp only[List.length_nil] at hn;omega
   have hr:=zus (P:=Tryz.prog) w 3 27 27 o.type 52 dp sp dLen dCap sLen sCap Tryz.underlying27 zut hm
   have hh:=h w (by simpa using hown) (World.grownBy.refl _ _)
   rw[hm] at hh
   unfold Oper.wp execOp
   simp only[ho,resolve,invoke,builtin,Sem.run_bind,Sem.run_pure,Result.andThen_ok,List.map_toArray,List.map_cons,List.map_nil,hd,hs,hr]
   exact hh
 · obtain⟨rfl,ad,rfl,hsrc⟩:= hpos (by omega)
   rcases hown.2 with ⟨hv,_⟩ | ⟨g',cap,cur,hv,hb,hg,hnc,hcm,hcs,htake⟩
   · cases hv
   · injection hv with hA _ hcc
     injection hA with hA
     injection hA with hA
     subst hA
     subst hcc
     have hxl:=hown.1
     have hfc:off+cs.length≤cur.size:=by rw[hcs];have:=Nat.mul_le_mul_right 3 hnc;omega
     have hr:=zur (P:=Tryz.prog) w 3 27 27 o.type 52 g off dLen dCap ad sLen sCap cur 52 cs Tryz.underlying27 zut hg hn hsrc hfc h1
     unfold Oper.wp execOp
     simp only[ho,resolve,invoke,builtin,Sem.run_bind,Sem.run_pure,Result.andThen_ok,List.map_toArray,List.map_cons,List.map_nil,hd,hs,hr]
     refine h _ ⟨by simp;omega,.inr ⟨g,c,_,rfl,hb,setRow_heap w g cur _ _ _ hg,hnc,hcm,by simp[hcs];have:=Nat.mul_le_mul_right 3 hnc;omega,?_⟩⟩ ⟨rfl,rfl,rfl,by simp[World.setRow],fun k _ hk=>setRow_other w g k _ (fun e=>hk (by rw[e]))⟩
     have hl2:xs.length=N * 3:=hxl
     rw[← htake]
     apply List.ext_getElem?
     intro j
     simp only[List.getElem?_take,List.getElem?_append,List.length_take,List.getElem?_drop,Array.length_toList,List.length_append]
     rw[hcs]
     have hcc3:=Nat.mul_le_mul_right 3 hnc
     have m1:min off (c * 3)=off:=by omega
     have m2:min off (min (N * 3) (c * 3))=off:=by omega
     rw[m1,m2]
     by_cases hj:j < off
     · simp[hj,show j < off+cs.length by omega,show j < N * 3 by omega]
     · by_cases hj2:j - off < cs.length
       · simp[hj,hj2,show j < off+cs.length by omega,show j < N * 3 by omega]
       · by_cases hj3:j < N * 3
         · simp[hj,hj2,hj3,show ¬ j < off+cs.length by omega]
           rw[if_pos (by omega)]
           congr 1
           omega
         · simp[hj,hj2,hj3,show ¬ j < off+cs.length by omega]
           intro hx
           omega
theorem zuv {α:Type} (s t:List α) (hs:s.length=3) (i j:Nat) (h:i=3+j) (v: α):(s ++ t).set i v=s ++ t.set j v:=by
 subst h
 rw[List.set_append_right _ _ (by omega),hs,Nat.add_sub_cancel_left]
def valC3 (x:SV) (d:Option Addr×Nat):List Value:= [.int .i64 x.ix,.int .i64 x.sub,.slice d.1 x.data.length d.2]
theorem zuw (x:SV) (d:Option Addr×Nat) (L:List SV) (ds:List (Option Addr×Nat)):cellsV (x :: L) (d :: ds)=valC3 x d ++ cellsV L ds:=rfl
theorem zux (x:SV) (d:Option Addr×Nat):∀ (L:List SV) (ds:List (Option Addr×Nat)) (k:Nat),ds.length=L.length→k < L.length→
 (((cellsV L ds).set (k * 3) (.int .i64 x.ix)).set (k * 3+1) (.int .i64 x.sub)).set (k * 3+2) (.slice d.1 x.data.length d.2)=cellsV (L.set k x) (ds.set k d):= by
 intro L
 induction L with
 | nil=>intro ds k _ h;simp at h
 | cons y L ih=>
   intro ds k hl hk
   cases ds with
   | nil=>simp at hl
   | cons e ds=>
     cases k with
     | zero=>rfl
     | succ k=>
       have hs:(valC3 y e).length=3:=rfl
       rw[List.set_cons_succ,List.set_cons_succ,zuw,zuw,← ih ds k (by simpa using hl) (by simpa using hk)]
       rw[zuv _ _ hs _ (k * 3) (by omega),zuv _ _ hs _ (k * 3+1) (by omega),zuv _ _ hs _ (k * 3+2) (by omega)]
theorem zuy:∀ (L:List SV) (ds:List (Option Addr×Nat)),ds.length=L.length→(cellsV L ds).length=L.length * 3
 | [],_,_=>rfl
 | _ :: L,[],h=>by simp at h
 | x :: L,d :: ds,h=>by rw[zuw,List.length_append,zuy L ds (by simpa using h),List.length_cons];simp[valC3];omega
theorem zuz:∀ (L M:List SV) (ds es:List (Option Addr×Nat)),ds.length=L.length→cellsV (L ++ M) (ds ++ es)=cellsV L ds ++ cellsV M es
 | [],M,[],es,_=>rfl
 | [],_,_ :: _,_,h=>by simp at h
 | _ :: L,_,[],_,h=>by simp at h
 | x :: L,M,d :: ds,es,h=>by rw[List.cons_append,List.cons_append,zuw,zuw,zuz L M ds es (by simpa using h),List.append_assoc]
theorem zu0:∀ (L:List SV) (ds:List (Option Addr×Nat)),∀ u ∈ cellsV L ds,u.oneCell'=true
 | [],_,_,h=>by simp[cellsV] at h
 | _ :: _,[],_,h=>by simp[cellsV] at h
 | x :: L,d :: ds,u,h=>by
   rw[zuw] at h
   rcases List.mem_append.1 h with h | h
   · simp[valC3] at h
     rcases h with rfl | rfl | rfl<;>rfl
   · exact zu0 L ds u h
def stoV (w:World) (g k:Nat) (x:SV) (A:Option Addr) (c:Nat):World:=
 ((w.setCell ⟨g,k * 3,none⟩ (.int .i64 x.ix)).setCell ⟨g,k * 3+1,none⟩ (.int .i64 x.sub)).setCell ⟨g,k * 3+2,none⟩ (.slice A x.data.length c)
theorem zu1 {w:World} {B g n c k:Nat} {L:List SV} {ds:List (Option Addr×Nat)} (h:Own w B 52 3 (some ⟨g,0,none⟩) n c (cellsV L ds)) (hd:ds.length=L.length) (hk:k < L.length) (x:SV) (A:Option Addr) (c':Nat) :
 Own (stoV w g k x A c') B 52 3 (some ⟨g,0,none⟩) n c (cellsV (L.set k x) (ds.set k (A,c'))):= by
 have h1:=(World.ownsRow.stored (World.ownsRow.stored (World.ownsRow.stored h (k * 3) (.int .i64 x.ix)).1 (k * 3+1) (.int .i64 x.sub)).1 (k * 3+2) (.slice A x.data.length c')).1
 rw[zux x (A,c') L ds k hd hk] at h1
 exact h1
theorem zu2 {w:World} {g k i:Nat} (x:SV) (A:Option Addr) (c:Nat) (hne:i≠g):(stoV w g k x A c).heap[i]? =w.heap[i]? :=by
 unfold stoV
 rw[heap_setCell_other _ _ _ _ (by exact hne),heap_setCell_other _ _ _ _ (by exact hne),heap_setCell_other _ _ _ _ (by exact hne)]
theorem zu3 {α:Type} {R: α→α→Prop} (hs:∀ a b,R a b→R b a):∀ {ds:List α} {k:Nat} {d: α},ds.Pairwise R→(∀ a ∈ ds,R a d)→ (ds.set k d).Pairwise R
 | [],_,_,_,_=>by simp
 | a :: ds,0,d,h,h2=>by
   rw[List.set_cons_zero]
   exact List.pairwise_cons.2 ⟨fun b hb=>hs _ _ (h2 b (List.mem_cons_of_mem _ hb)),(List.pairwise_cons.1 h).2⟩
 | a :: ds,k+1,d,h,h2=>by
   rw[List.set_cons_succ]
   refine List.pairwise_cons.2 ⟨fun b hb=>?_,zu3 hs (List.pairwise_cons.1 h).2 (fun a ha=>h2 a (List.mem_cons_of_mem _ ha))⟩
   rcases List.mem_or_eq_of_mem_set hb with hb | rfl
   · exact (List.pairwise_cons.1 h).1 b hb
   · exact h2 a (List.mem_cons_self ..)
theorem zu4 {α:Type} {R: α→α→Prop} (hs:∀ a b,R a b→R b a) {ds:List α} (k:Nat) {d: α} (h:ds.Pairwise R) (h2:∀ a ∈ ds,R a d):(ds.take k ++ d :: ds.drop k).Pairwise R:=by
 have e:ds.take k ++ ds.drop k=ds:=List.take_append_drop k ds
 have h3:=h
 rw[← e,List.pairwise_append] at h3
 rw[List.pairwise_append]
 refine⟨h3.1,List.pairwise_cons.2 ⟨fun b hb=>hs _ _ (h2 b (List.mem_of_mem_drop hb)),h3.2.1⟩,?_⟩
 intro a ha b hb
 rcases List.mem_cons.1 hb with rfl | hb
 · exact h2 a (List.mem_of_mem_take ha)
 · exact h3.2.2 a ha b hb
end
end Go.Proofs.YtehabbnohoomjaaGreatDoor
