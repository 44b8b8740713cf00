/- None -/
import Derived.Test.YtehabbnohoomjaaGreatDoorP40
namespace Go.Proofs.YtehabbnohoomjaaGreatDoor
set_option linter.unusedVariables false
set_option linter.unusedSimpArgs false
set_option linter.unnecessarySimpa false
section
open Go.RowKit
set_option maxRecDepth 20000
set_option maxHeartbeats 4000000
theorem zye {ops:Array Oper} {rest:List Oper} {o:Oper} {a:Act} {Q:Exit→Act→World→Prop} (w:World) (hgd:o.guard=none) (s x:Operand)
 (ho:o.op= .call { callee:= .builtin .append,args:= #[s,x],argTypes:= #[27,27] })
 (B:Nat) (A:Option Addr) (n c:Nat) (L:List SV) (ds:List (Option Addr×Nat)) (hs:a.eval s= .slice A n c) (hown:znh w B A n c L ds)
 (v:SV) (d:Option Addr×Nat) (A2:Option Addr) (hx:a.eval x= .slice A2 1 1)
 (hr:Sl w A2 [.int .i64 v.ix,.int .i64 v.sub,.slice d.1 v.data.length d.2]) (hv:zcd w B d.1 v.data.length d.2 v.data)
 (hnew:∀ d' ∈ ds,∀ g,d'.1=some (⟨g,0,none⟩:Addr)→ d.1≠some ⟨g,0,none⟩) (hb:n≤35184372088) (hB:B≤w.heap.size) (N:Nat) (hN:n+1=N)
 (h:∀ A' c' w',znh w' B A' N c' (L ++ [v]) (ds ++ [d])→ w.grownBy w' (Value.ownBlock (.slice A n c))→ (A'=A∨A'=some ⟨w.heap.size,0,none⟩)→ Below B w w'→wpList Tryz.prog ops Q rest (a.put o.dst (.slice A' N c')) w'):wpList Tryz.prog ops Q (o :: rest) a w:=by
 obtain⟨i0,hi0,hz0,hz1,hz2⟩:= info_parts znd
 refine za4 w hgd s x _ ho B 52 i0 _ 3 40 Tryz.underlying27 hi0 hz0 hz1 hz2 rfl (by omega) A n c _ hs hown.own A2 1 1 _ hx rfl hr (by intro u hu;simp at hu;rcases hu with rfl | rfl | rfl<;>rfl) (by unfold maxLen;omega) (by omega) hB N hN _ (znf L ds v d hown.hd).symm ?_
 intro A' c' w' h1 h2 h3 h4
 refine h A' c' w' ⟨by rw[← hN,hown.hn];simp,by simp[hown.hd],h1,?_,?_⟩ h2 h3 h4
 · have keep:∀ {m:Nat} {dd:Option Addr×Nat} {l:List UInt8},zcd w B dd.1 m dd.2 l→zcd w' B dd.1 m dd.2 l:=fun hO=>⟨hO.hn,hO.own.grown h2 (zng hO.own hown.own (by decide))⟩
   have hm:=zu8 (k:=L.length) hown.hd (fun j u d' hu hd'=>keep (hown.data j u d' hu hd')) (Nat.le_refl _) (keep hv)
   rw[List.take_length,List.drop_length] at hm
   rw[show ds.take L.length=ds from List.take_of_length_le (by rw[hown.hd];exact Nat.le_refl _),show ds.drop L.length= [] from List.drop_of_length_le (by rw[hown.hd];exact Nat.le_refl _)] at hm
   exact hm
 · rw[List.pairwise_append]
   refine⟨hown.pw,List.pairwise_singleton _ _,?_⟩
   intro a ha b hb
   rw[List.mem_singleton.1 hb]
   exact hnew a ha
structure zyf (w0 w:World) (A:Option Addr) (n c:Nat) (L:List SV) (ds:List (Option Addr×Nat)):Prop where
 hn:n=L.length
 hd:ds.length=L.length
 own:Own w w0.heap.size 52 3 A n c (cellsV L ds)
 data:∀ (j:Nat) (v:SV) (d:Option Addr×Nat),L[j]? =some v→ds[j]? =some d→Sl w0 d.1 (v.data.map bv)
theorem zyf.nil (w0 w:World):zyf w0 w none 0 0 [] []:= ⟨rfl,rfl,Own.nil _ _ _ _,by intro j v d h;simp at h⟩
theorem zyf.below {w0 w w':World} {A:Option Addr} {n c:Nat} {L:List SV} {ds:List (Option Addr×Nat)} (h:zyf w0 w A n c L ds) (hb:Below w.heap.size w w'):zyf w0 w' A n c L ds:=⟨h.hn,h.hd,h.own.below hb,h.data⟩
theorem zyg {w0:World} {L M:List SV} {ds es:List (Option Addr×Nat)} (hd:ds.length=L.length) (h1:∀ (j:Nat) (v:SV) (d:Option Addr×Nat),L[j]? =some v→ds[j]? =some d→Sl w0 d.1 (v.data.map bv))
 (h2:∀ (j:Nat) (v:SV) (d:Option Addr×Nat),M[j]? =some v→es[j]? =some d→Sl w0 d.1 (v.data.map bv)):∀ (j:Nat) (v:SV) (d:Option Addr×Nat),(L ++ M)[j]? =some v→(ds ++ es)[j]? =some d→Sl w0 d.1 (v.data.map bv):= by
 intro j v d hv he
 rcases Nat.lt_or_ge j L.length with hj | hj
 · rw[List.getElem?_append_left hj] at hv
   rw[List.getElem?_append_left (by omega)] at he
   exact h1 j v d hv he
 · rw[List.getElem?_append_right hj] at hv
   rw[List.getElem?_append_right (by omega),hd] at he
   exact h2 _ v d hv he
theorem zyh {w:World} {A:Option Addr} {X:List SV} (h:SlV w A X):∃ es,es.length=X.length∧Sl w A (cellsV X es)∧ ∀ (j:Nat) (v:SV) (d:Option Addr×Nat),X[j]? =some v→es[j]? =some d→Sl w d.1 (v.data.map bv):= by
 have hx:∀ n,n≤X.length→ ∃ es:List (Option Addr×Nat),es.length=n∧ ∀ (j:Nat) (v:SV) (d:Option Addr×Nat),X[j]? =some v→es[j]? =some d→(∃ b off,A=some ⟨b,off,none⟩∧ w.cell? ⟨b,off+j * 3,none⟩=some (.int .i64 v.ix)∧ w.cell? ⟨b,off+j * 3+1,none⟩=some (.int .i64 v.sub)∧ w.cell? ⟨b,off+j * 3+2,none⟩=some (.slice d.1 v.data.length d.2))∧ Sl w d.1 (v.data.map bv):= by
  intro n
  induction n with
  | zero=>intro _;exact⟨[],rfl,by intro j v d _ hd;simp at hd⟩
  | succ n ih=>
    intro hn
    obtain⟨es,hl,he⟩:= ih (by omega)
    obtain⟨b,off,Aj,cj,hA,e0,e1,e2,_,e5⟩:= h n X[n] (List.getElem?_eq_getElem _)
    refine⟨es ++ [(Aj,cj)],by simp[hl],?_⟩
    intro j v d hv hd
    rcases Nat.lt_or_ge j n with hj | hj
    · rw[List.getElem?_append_left (by omega)] at hd
      exact he j v d hv hd
    · have hj2:j=n:=by
       have:=(List.getElem?_eq_some_iff.1 hd).1
       simp at this
       omega
      subst hj2
      rw[List.getElem?_append_right (by omega),hl,Nat.sub_self] at hd
      simp at hd
      subst hd
      rw[List.getElem?_eq_getElem (by omega)] at hv
      injection hv with hv
      subst hv
      exact⟨⟨b,off,hA,e0,e1,e2⟩,e5⟩
 obtain⟨es,hl,he⟩:= hx X.length (Nat.le_refl _)
 refine⟨es,hl,?_,fun j v d hv hd=>(he j v d hv hd).2⟩
 intro i u hu
 have hi:=(List.getElem?_eq_some_iff.1 hu).1
 rw[zuy _ _ hl] at hi
 have hj:i / 3 < X.length:=by omega
 obtain⟨⟨b,off,hA,e0,e1,e2⟩,_⟩:= he (i / 3) X[i / 3] (es[i / 3]'(by omega)) (List.getElem?_eq_getElem hj) (List.getElem?_eq_getElem _)
 obtain⟨q0,q1,q2⟩:= zne X es (i / 3) X[i / 3] (es[i / 3]'(by omega)) (List.getElem?_eq_getElem hj) (List.getElem?_eq_getElem _)
 refine⟨⟨b,off,none⟩,hA,?_⟩
 have e:∀ o i:Nat,(⟨b,o,none⟩:Addr).add i=⟨b,o+i,none⟩:= by intro o i;unfold Addr.add;split<;>simp_all
 rw[e]
 have hr:i=i / 3 * 3∨i=i / 3 * 3+1∨i=i / 3 * 3+2:=by omega
 rcases hr with h | h | h
 · rw[← h] at q0 e0
   rw[q0] at hu;injection hu with hu;rw[← hu];exact e0
 · rw[← h] at q1
   rw[Nat.add_assoc,← h] at e1
   rw[q1] at hu;injection hu with hu;rw[← hu];exact e1
 · rw[← h] at q2
   rw[Nat.add_assoc,← h] at e2
   rw[q2] at hu;injection hu with hu;rw[← hu];exact e2
theorem zyi {X:List SV} {u v:SV} {k:Nat} (h:X[k]? =some v):metB (X.take (k+1)) u=(metB (X.take k) u || (decide (v.ix=u.ix) && decide (v.sub=u.sub))):= by
 obtain⟨hk,rfl⟩:= List.getElem?_eq_some_iff.1 h
 unfold metB
 rw[List.take_succ_eq_append_getElem hk,List.any_append]
 simp
theorem zyj {X Y:List SV} {u:SV} {k:Nat} (h:X[k]? =some u):restV (X.take (k+1)) Y=restV (X.take k) Y ++ (if metB Y u=true then [] else [u]):= by
 obtain⟨hk,rfl⟩:= List.getElem?_eq_some_iff.1 h
 unfold restV
 rw[List.take_succ_eq_append_getElem hk,List.filter_append]
 cases hm:metB Y X[k]<;> simp[hm]
theorem zyk {w:World} {B e s n c:Nat} {A Ao:Option Addr} {xs:List Value} (h:∀ g,A=some (⟨g,0,none⟩:Addr)→ Ao≠some ⟨g,0,none⟩) (ho:Own w B e s Ao n c xs):∀ g,A=some (⟨g,0,none⟩:Addr)→ some g≠Value.ownBlock (.slice Ao n c):= by
 intro g hA hg
 rcases ho.shape with ⟨rfl,_⟩ | ⟨g',rfl,_⟩
 · simp[Value.ownBlock] at hg
 · simp[Value.ownBlock] at hg
   subst hg
   exact h g hA rfl
theorem zyf.grown {w0 w w':World} {A:Option Addr} {n c:Nat} {L:List SV} {ds:List (Option Addr×Nat)} {r:Option Nat} (h:zyf w0 w A n c L ds) (hg:w.grownBy w' r) (hne:∀ g,A=some (⟨g,0,none⟩:Addr)→ some g≠r):zyf w0 w' A n c L ds:=⟨h.hn,h.hd,h.own.grown hg hne,h.data⟩
theorem znh.grown {w w':World} {B n c e s n2 c2:Nat} {A A2:Option Addr} {L:List SV} {ds:List (Option Addr×Nat)} {xs:List Value} (h:znh w B A n c L ds) (h2:Own w e 52 s A2 n2 c2 xs) (hg:w.grownBy w' (Value.ownBlock (.slice A2 n2 c2))) (hne:∀ g,A=some (⟨g,0,none⟩:Addr)→ A2≠some ⟨g,0,none⟩):znh w' B A n c L ds:=
 ⟨h.hn,h.hd,h.own.grown hg (zyk hne h2),fun j v d hv hd=>⟨(h.data j v d hv hd).hn,(h.data j v d hv hd).own.grown hg (zng (h.data j v d hv hd).own h2 (by decide))⟩,h.pw⟩
theorem Sl.takeK {w:World} {A:Option Addr} {xs:List Value} (h:Sl w A xs) (k:Nat):Sl w A (xs.take k):= by
 intro j u hu
 rw[List.getElem?_take] at hu
 split at hu
 · exact h j u hu
 · cases hu
theorem zyl {m:Nat} {L:List SV} {k:Nat} (hm:m=L.length) (h0:0 < m) (hk:k=minF L m):k < m∧selV m L=L.getD k svZ :: selV (m - 1) (L.take k ++ L.drop (k+1)):= by
 subst hm
 have h1:=(zun L L.length (by omega)).1
 refine⟨by omega,?_⟩
 obtain⟨f,hf⟩:∃ f,L.length=f+1:=⟨L.length - 1,by omega⟩
 rw[hf,selV,if_neg (by omega),hk,← hf]
 rw[show L.length - 1=f by omega]
theorem zym {P:SV→Option Addr×Nat→Prop} {L:List SV} {ds:List (Option Addr×Nat)} (k:Nat) (h:∀ (j:Nat) (v:SV) (d:Option Addr×Nat),L[j]? =some v→ds[j]? =some d→P v d):∀ (j:Nat) (v:SV) (d:Option Addr×Nat),(L.take k)[j]? =some v→(ds.take k)[j]? =some d→P v d:=by
 intro j v d hv hd
 rw[List.getElem?_take] at hv hd
 split at hv
 · rename_i hj
   rw[if_pos hj] at hd
   exact h j v d hv hd
 · cases hv
theorem zyn {P:SV→Option Addr×Nat→Prop} {L:List SV} {ds:List (Option Addr×Nat)} (k:Nat) (h:∀ (j:Nat) (v:SV) (d:Option Addr×Nat),L[j]? =some v→ds[j]? =some d→P v d):∀ (j:Nat) (v:SV) (d:Option Addr×Nat),(L.drop k)[j]? =some v→(ds.drop k)[j]? =some d→P v d:=by
 intro j v d hv hd
 rw[List.getElem?_drop] at hv hd
 exact h _ v d hv hd
theorem zyo (A1:Option Addr) (n1 c1:Nat) (X1:List SV) (A2:Option Addr) (n2 c2:Nat) (X2:List SV) (w:World) (hn1:n1=X1.length) (hX1:SlV w A1 X1) (hn2:n2=X2.length) (hX2:SlV w A2 X2) (h1:lightB X1=true) (h2:lightB X2=true) (ho1:OnceV X1) (ho2:OnceV X2) :
 Calls Tryz.prog 26 #[.slice A1 n1 c1,.slice A2 n2 c2] w (JoinR X1 X2 w):= by
 have f1:X1.length≤200∧ ∀ v ∈ X1,v.data.length≤2000:=of_decide_eq_true h1
 have f2:X2.length≤200∧ ∀ v ∈ X2,v.data.length≤2000:=of_decide_eq_true h2
 obtain⟨R,hR⟩:∃ R,R=JoinR X1 X2 w:=⟨_,rfl⟩
 rw[← hR]
 have HR:=zak hR
 have HN1:=zak hn1
 have HN2:=zak hn2
 have HX1:=zak hX1
 have HX2:=zak hX2
 have HF1:=zak f1
 have HF2:=zak f2
 have HJN:=zak (zup ho1 ho2)
 have hm1:n1≤200:=by omega
 have hm2:n2≤200:=by omega
 clear hR hn1 hn2 hX1 hX2 h1 h2 f1 f2 ho1 ho2
 go_enter Tryz.func26,Tryz.ntmps26
 go_wp2_with fail
 go_loopw [5,6,7,8] (fun v5 v6 _ _ wr=> ∃ (i:Nat) (A:Option Addr) (m c:Nat) (ds:List (Option Addr×Nat)),i≤n1∧m≤i∧v6= .int .i64 (i:Nat)∧ v5= .slice A m c∧Hid (zyf w wr A m c (restV (X1.take i) X2) ds∧Below w.heap.size w wr)) (fun _ v6 _ _ _=>n1 - (intOf v6).toNat)
 case atStart=>exact⟨0,none,0,0,[],by omega,by omega,rfl,rfl,zak ⟨zyf.nil _ _,Below.refl _ _⟩⟩
 case round=>
  obtain⟨i,A,m,c,ds,hi,hmi,rfl,rfl,HK⟩:= hrel
  by_cases hlt:i < n1
  · obtain⟨u,hu⟩:∃ u,X1[i]? =some u:=⟨X1[i]'(by have:=HN1.out;omega),List.getElem?_eq_getElem _⟩
    have HU:=zak hu
    clear hu
    go_wp2_with fail
    go_loopw [7,8] (fun v7 v8 wx=> ∃ k:Nat,k≤n2∧v8= .int .i64 (k:Nat)∧ v7= .bool (metB (X2.take k) u)∧ Hid (zyf w wx A m c (restV (X1.take i) X2) ds∧Below w.heap.size w wx)) (fun _ v8 _=>n2 - (intOf v8).toNat)
    case atStart=>exact⟨0,by omega,rfl,rfl,HK⟩
    case round=>
     clear HK
     obtain⟨k,hk,rfl,rfl,HK⟩:= hrel
     by_cases hki:k < n2
     · obtain⟨v,hv⟩:∃ v,X2[k]? =some v:=⟨X2[k]'(by have:=HN2.out;omega),List.getElem?_eq_getElem _⟩
       obtain⟨b,off,Aj,cj,rfl,e0,e1,e2,_⟩:= (HX1.out.below HK.out.2) i u HU.out
       obtain⟨b',off',Aj',cj',rfl,f0,f1,f2,_⟩:= (HX2.out.below HK.out.2) k v hv
       have HM:=zak (zyi (u:=u) hv)
       obtain⟨i1,i2,i3⟩:= zbr hlt
       obtain⟨k1,k2,k3⟩:= zbr hki
       obtain⟨mv,hmv⟩:∃ mv,mv=metB (X2.take k) u:=⟨_,rfl⟩
       rw[← hmv] at HM ⊢
       clear hv hmv e2 f2
       cases mv
       · have hways:(v.ix=u.ix∧v.sub=u.sub)∨ (v.ix=u.ix∧ ¬ v.sub=u.sub)∨ ¬ v.ix=u.ix:=by
          by_cases h1:v.ix=u.ix
          · by_cases h2:v.sub=u.sub
            · exact .inl ⟨h1,h2⟩
            · exact .inr (.inl ⟨h1,h2⟩)
          · exact .inr (.inr h1)
         rcases hways with ⟨h1,h2⟩ | ⟨h1,h2⟩ | h1
         · skip
           have g0:(v.ix == u.ix)=true:=by simpa using h1
           have g1:(v.sub == u.sub)=true:=by simpa using h2
           have HE:=zak (And.intro h1 h2)
           clear h1 h2
           go_wp2_with fail
           refine wp_region_held_drew (S:=(fun w'=>(w'.cell? ⟨b,off+i * 3,none⟩=some (.int .i64 u.ix)∧ w'.cell? ⟨b,off+i * 3+1,none⟩=some (.int .i64 u.sub)∧ w'.cell? ⟨b',off'+k * 3,none⟩=some (.int .i64 v.ix)∧ w'.cell? ⟨b',off'+k * 3+1,none⟩=some (.int .i64 v.sub))∧ zyf w w' A m c (restV (X1.take i) X2) ds∧Below w.heap.size w w')) (by kernel_rfl) ?hS1 (fun hHeld=>?rest1)
           case hS1=>((try dsimp only);(exact⟨⟨e0,e1,f0,f1⟩,HK.out.1.below (zb9 (Below.refl _ _)),zb9 HK.out.2⟩))
           case' rest1=>skip
           iterate 28 (refine tkN ?_;try simp only[PqL,Act.put])
           refine wpAnyH_done (by kernel_rfl) ?_ _
           have hEnd:=hHeld.2
           repeat (clear hHeld)
           go_wp2_with fail
           go_roundw
           case rel=>exact⟨k+1,by omega,by go_num,by rw[HM.out];simp[HE.out.1,HE.out.2],zak hEnd⟩
           case measure=>simp[intOf];omega
         · skip
           have g0:(v.ix == u.ix)=true:=by simpa using h1
           have g1:(v.sub == u.sub)=false:=by simpa using h2
           have HE:=zak (And.intro h1 h2)
           clear h1 h2
           go_wp2_with fail
           refine wp_region_held_drew (S:=(fun w'=>(w'.cell? ⟨b,off+i * 3,none⟩=some (.int .i64 u.ix)∧ w'.cell? ⟨b,off+i * 3+1,none⟩=some (.int .i64 u.sub)∧ w'.cell? ⟨b',off'+k * 3,none⟩=some (.int .i64 v.ix)∧ w'.cell? ⟨b',off'+k * 3+1,none⟩=some (.int .i64 v.sub))∧ zyf w w' A m c (restV (X1.take i) X2) ds∧Below w.heap.size w w')) (by kernel_rfl) ?hS31 (fun hHeld=>?rest31)
           case hS31=>((try dsimp only);(exact⟨⟨e0,e1,f0,f1⟩,HK.out.1.below (zb9 (Below.refl _ _)),zb9 HK.out.2⟩))
           case' rest31=>skip
           iterate 28 (refine tkN ?_;try simp only[PqL,Act.put])
           refine wpAnyH_done (by kernel_rfl) ?_ _
           have hEnd:=hHeld.2
           repeat (clear hHeld)
           go_wp2_with fail
           go_roundw
           case rel=>exact⟨k+1,by omega,by go_num,by rw[HM.out];simp[HE.out.1,HE.out.2],zak hEnd⟩
           case measure=>simp[intOf];omega
         · skip
           have g0:(v.ix == u.ix)=false:=by simpa using h1
           have HE:=zak h1
           clear h1
           go_wp2_with fail
           refine wp_region_held_drew (S:=(fun w'=>(w'.cell? ⟨b,off+i * 3,none⟩=some (.int .i64 u.ix)∧ w'.cell? ⟨b,off+i * 3+1,none⟩=some (.int .i64 u.sub)∧ w'.cell? ⟨b',off'+k * 3,none⟩=some (.int .i64 v.ix)∧ w'.cell? ⟨b',off'+k * 3+1,none⟩=some (.int .i64 v.sub))∧ zyf w w' A m c (restV (X1.take i) X2) ds∧Below w.heap.size w w')) (by kernel_rfl) ?hS61 (fun hHeld=>?rest61)
           case hS61=>((try dsimp only);(exact⟨⟨e0,e1,f0,f1⟩,HK.out.1.below (zb9 (Below.refl _ _)),zb9 HK.out.2⟩))
           case' rest61=>skip
           iterate 14 (refine tkN ?_;try simp only[PqL,Act.put])
           iterate 11 (refine tkV ?_;try simp only[PqL,Act.put])
           iterate 3 (refine tkN ?_;try simp only[PqL,Act.put])
           refine wpAnyH_done (by kernel_rfl) ?_ _
           have hEnd:=hHeld.2
           repeat (clear hHeld)
           go_wp2_with fail
           go_roundw
           case rel=>exact⟨k+1,by omega,by go_num,by rw[HM.out];simp[HE.out],zak hEnd⟩
           case measure=>simp[intOf];omega
       · skip
         go_wp2_with fail
         refine wp_region_held_drew (S:=(fun w'=>(w'.cell? ⟨b,off+i * 3,none⟩=some (.int .i64 u.ix)∧ w'.cell? ⟨b,off+i * 3+1,none⟩=some (.int .i64 u.sub)∧ w'.cell? ⟨b',off'+k * 3,none⟩=some (.int .i64 v.ix)∧ w'.cell? ⟨b',off'+k * 3+1,none⟩=some (.int .i64 v.sub))∧ zyf w w' A m c (restV (X1.take i) X2) ds∧Below w.heap.size w w')) (by kernel_rfl) ?hS91 (fun hHeld=>?rest91)
         case hS91=>((try dsimp only);(exact⟨⟨e0,e1,f0,f1⟩,HK.out.1.below (zb9 (Below.refl _ _)),zb9 HK.out.2⟩))
         case' rest91=>skip
         iterate 2 (refine tkN ?_;try simp only[PqL,Act.put])
         iterate 24 (refine tkV ?_;try simp only[PqL,Act.put])
         iterate 2 (refine tkN ?_;try simp only[PqL,Act.put])
         refine wpAnyH_done (by kernel_rfl) ?_ _
         have hEnd:=hHeld.2
         repeat (clear hHeld)
         go_wp2_with fail
         go_roundw
         case rel=>exact⟨k+1,by omega,by go_num,by rw[HM.out];rfl,zak hEnd⟩
         case measure=>simp[intOf];omega
     · have HKN:=zak (show k=n2 by omega)
       have HM:=zak (show metB (X2.take k) u=metB X2 u by rw[List.take_of_length_le (by rw[HKN.out,HN2.out];exact Nat.le_refl _)])
       have HRS:=zak (zyj (Y:=X2) HU.out)
       obtain⟨b,off,Aj,cj,rfl,e0,e1,e2,e4,e5⟩:= (HX1.out.below HK.out.2) i u HU.out
       obtain⟨mv,hmv⟩:∃ mv,mv=metB (X2.take k) u:=⟨_,rfl⟩
       rw[← HM.out,← hmv] at HRS
       rw[← hmv]
       have HSL:=zak (show Sl w Aj (u.data.map bv) from by
        obtain⟨b',off',Aj',cj',h,_,_,h3,_,h5⟩:= HX1.out i u HU.out
        have c2'':=(HK.out.2.cell (zal h3)).trans h3
        simp only[Option.some.injEq,Addr.mk.injEq,and_true] at h
        obtain⟨rfl,rfl⟩:= h
        rw[e2] at c2''
        injection c2'' with c2''
        injection c2'' with c2'' _ _
        rw[c2'']
        exact h5)
       obtain⟨ul,hul⟩:∃ ul,ul=u.data.length:=⟨_,rfl⟩
       rw[← hul] at e2
       have HUL:=zak hul
       clear hmv e4 e5 hul
       cases mv
       · have hba:=zbf (Below.refl wr.heap.size wr) (.cells #[.int .i64 u.ix,.int .i64 u.sub,.slice Aj ul cj] 52)
         have HOA:=zak (HK.out.1.own.below hba)
         have HBA:=zak (zbd hba HK.out.2)
         clear hba
         go_wp2_with (at_builtin;refine zu5 _ rfl _ _ rfl w.heap.size A m c _ rfl HOA.out _ 1 1 (cellsV [u] [(Aj,cj)]) rfl (by rfl) (by rw[show cellsV [u] [(Aj,cj)]= [.int .i64 u.ix,.int .i64 u.sub,.slice Aj u.data.length cj] from rfl,← HUL.out];exact (Blk.new _ _ _).sl) (zu0 _ _) (by omega) HBA.out.size (m+1) rfl ?_;intro A5 c5 w5 hown5 hg5 hr5 hb5)
         go_roundw
         case rel=>
          refine⟨i+1,A5,m+1,c5,ds ++ [(Aj,cj)],by omega,by omega,by go_num,rfl,zak ⟨?_,HBA.out.trans hb5⟩⟩
          rw[HRS.out,if_neg (by decide)]
          refine⟨by rw[HK.out.1.hn];simp,by simp[HK.out.1.hd],by rw[zuz _ _ _ _ HK.out.1.hd];exact hown5,zyg HK.out.1.hd HK.out.1.data ?_⟩
          intro j x d hx hd
          have hj:j=0:=by have:=(List.getElem?_eq_some_iff.1 hx).1;simp at this;omega
          subst hj
          simp at hx hd
          subst hx
          subst hd
          exact HSL.out
         case measure=>simp[intOf];omega
       · go_wp2_with fail
         go_roundw
         case rel=>exact⟨i+1,A,m,c,ds,by omega,by omega,by go_num,rfl,zak ⟨by rw[HRS.out,if_pos rfl,List.append_nil];exact HK.out.1,HK.out.2⟩⟩
         case measure=>simp[intOf];omega
  · have HIN:=zak (show i=n1 by omega)
    have HA0:=zak (show zyf w wr A m c (restV X1 X2) ds from by
     have:=HK.out.1
     rw[List.take_of_length_le (by rw[HIN.out,HN1.out];exact Nat.le_refl _)] at this
     exact this)
    have HBr:=zak HK.out.2
    obtain⟨es,hes,hsl,hed⟩:= zyh HX2.out
    have HSL2:=zak (hsl.below HK.out.2)
    have HED:=zak (And.intro hes hed)
    clear HK hes hsl hed
    obtain⟨N,hN⟩:∃ N,m+n2=N:=⟨_,rfl⟩
    have HNN:=zak hN
    have hN4:N≤400:=by omega
    clear hN
    go_wp2_with (at_builtin;refine zu5 _ rfl _ _ rfl w.heap.size A m c _ rfl HA0.out.own A2 n2 c2 (cellsV X2 es) rfl (by rw[zuy _ _ HED.out.1,HN2.out]) HSL2.out (zu0 _ _) (by omega) HBr.out.size N HNN.out ?_;intro A5 c5 w5 hown5 hg5 hr5 hb5)
    have HD5:=zak (show zyf w w5 A5 N c5 (restV X1 X2 ++ X2) (ds ++ es) from ⟨by rw[List.length_append,← HA0.out.hn,← HN2.out,HNN.out],by simp[HA0.out.hd,HED.out.1],by rw[zuz _ _ _ _ HA0.out.hd];exact hown5,zyg HA0.out.hd HA0.out.data HED.out.2⟩)
    have HB5:=zak (HBr.out.trans hb5)
    have HJ5:Hid (([]:List SV) ++ selV N (restV X1 X2 ++ X2)=joinV X1 X2):= zak (by rw[List.nil_append,HD5.out.hn];exact HJN.out)
    have HF5:Hid (∀ v ∈ restV X1 X2 ++ X2,v.data.length≤2000):= zak (by
     intro v hv
     rcases List.mem_append.1 hv with h | h
     · exact HF1.out.2 v (List.mem_filter.1 h).1
     · exact HF2.out.2 v h)
    clear hown5 hg5 hr5 hb5
    go_loopw [5,9,10,11,12] (fun v5 v9 _ _ _ wx=> ∃ (L O:List SV) (A:Option Addr) (m c:Nat) (ds:List (Option Addr×Nat)) (Ao:Option Addr) (mo co:Nat) (dso:List (Option Addr×Nat)),m≤400∧mo+m≤400∧v5= .slice A m c∧v9= .slice Ao mo co∧Hid (O ++ selV m L=joinV X1 X2)∧ Hid (zyf w wx A m c L ds∧znh wx w.heap.size Ao mo co O dso∧(∀ v ∈ L,v.data.length≤2000)∧ (∀ g,A=some (⟨g,0,none⟩:Addr)→ Ao≠some ⟨g,0,none⟩)∧ Below w.heap.size w wx)) (fun v5 _ _ _ _ _=>lenOf v5)
    case atStart=>exact⟨_,[],A5,N,c5,_,none,0,0,[],by omega,by omega,rfl,rfl,HJ5,zak ⟨HD5.out,znh.nil _ _,HF5.out,(by intro g _ h;cases h),HB5.out⟩⟩
    case round=>
     clear HD5 HB5 HJ5 HF5 HA0 HBr HSL2 HED HNN HIN hN4 hlt hmi hi
     obtain⟨L,O,A,m,c,ds,Ao,mo,co,dso,hm4,hmo,rfl,rfl,HJ,HK⟩:= hrel
     by_cases h0:m=0
     · subst h0
       go_wp2_with fail
       rw[HR.out]
       have hj:=HJ.out
       rw[show selV 0 L= [] from rfl,List.append_nil] at hj
       refine⟨_,_,_,dso,rfl,?_,HK.out.2.2.2.2⟩
       rw[← hj]
       exact HK.out.2.1
     · have hmp:0 < m:=by omega
       clear h0
       go_wp2_with fail
       go_loopw [10,11] (fun v10 v11 wy=> ∃ i:Nat,1≤i∧i≤m∧v11= .int .i64 (i:Nat)∧ v10= .int .i64 (minF L i:Nat)∧ Hid (zyf w wy A m c L ds∧znh wy w.heap.size Ao mo co O dso∧Below w.heap.size w wy)) (fun _ v11 _=>m - (intOf v11).toNat)
       case atStart=>exact⟨1,by omega,by omega,rfl,by rw[show minF L 1=0 by rw[minF,minF,if_neg (by rw[zuf];decide)]];rfl,zak ⟨HK.out.1,HK.out.2.1,HK.out.2.2.2.2⟩⟩
       case round=>
        have HC:=zak (And.intro HK.out.2.2.1 HK.out.2.2.2.1)
        clear HK
        obtain⟨i,hi1,him,rfl,rfl,HK⟩:= hrel
        by_cases hlt:i < m
        · obtain⟨g,hA,hgB,hgw⟩:= HK.out.1.own.at_ hmp
          subst hA
          have hkm:minF L i < m:=by have:=(zun L i hi1).1;omega
          have hiL:i < L.length:=by rw[← HK.out.1.hn];exact hlt
          have hkL:minF L i < L.length:=by rw[← HK.out.1.hn];exact hkm
          have hid:i < ds.length:=by rw[HK.out.1.hd];exact hiL
          have hkd:minF L i < ds.length:=by rw[HK.out.1.hd];exact hkL
          obtain⟨e0,e1,e2⟩:= zu6 HK.out.1.own (List.getElem?_eq_getElem hiL) (List.getElem?_eq_getElem hid)
          obtain⟨f0,f1,f2⟩:= zu6 HK.out.1.own (List.getElem?_eq_getElem hkL) (List.getElem?_eq_getElem hkd)
          have HMF:Hid (minF L (i+1)=if ahV L[i] (L[minF L i])=true then i else minF L i):= zak (by rw[minF,List.getD_eq_getElem?_getD,List.getElem?_eq_getElem hiL,List.getD_eq_getElem?_getD,List.getElem?_eq_getElem hkL];rfl)
          obtain⟨x,hx⟩:∃ x,x=L[i]:= ⟨_,rfl⟩
          obtain⟨y,hy⟩:∃ y,y=L[minF L i]:= ⟨_,rfl⟩
          obtain⟨d1,hd1⟩:∃ d,d=ds[i]:= ⟨_,rfl⟩
          obtain⟨d2,hd2⟩:∃ d,d=ds[minF L i]:= ⟨_,rfl⟩
          rw[← hx,← hy] at HMF
          rw[← hx] at e0 e1 e2
          rw[← hy] at f0 f1 f2
          rw[← hd1] at e2
          rw[← hd2] at f2
          obtain⟨xl,hxl⟩:∃ l,l=x.data.length:=⟨_,rfl⟩
          obtain⟨yl,hyl⟩:∃ l,l=y.data.length:=⟨_,rfl⟩
          rw[← hxl] at e2
          rw[← hyl] at f2
          obtain⟨k,hk⟩:∃ k,k=minF L i:=⟨_,rfl⟩
          rw[← hk] at hkm f0 f1 f2 HMF ⊢
          obtain⟨i1,i2,i3⟩:= zbr hlt
          obtain⟨k1,k2,k3⟩:= zbr hkm
          have HAH:=zak (fun a b W=>zyb x.ix x.sub y.ix y.sub a b W)
          rw[show aheadB x.ix x.sub y.ix y.sub=ahV x y from rfl] at HAH
          obtain⟨bb,hbb⟩:∃ b,b=ahV x y:=⟨_,rfl⟩
          rw[← hbb] at HAH HMF
          clear hx hy hd1 hd2 hxl hyl hk hbb hiL hkL hid hkd hgB hgw
          cases bb
          · go_wp2_with fail
            refine wp_region_held_drew (S:=(fun w'=>(w'.cell? ⟨g,i * 3,none⟩=some (.int .i64 x.ix)∧ w'.cell? ⟨g,i * 3+1,none⟩=some (.int .i64 x.sub)∧ w'.cell? ⟨g,i * 3+2,none⟩=some (.slice d1.1 xl d1.2))∧ (w'.cell? ⟨g,k * 3,none⟩=some (.int .i64 y.ix)∧ w'.cell? ⟨g,k * 3+1,none⟩=some (.int .i64 y.sub)∧ w'.cell? ⟨g,k * 3+2,none⟩=some (.slice d2.1 yl d2.2))∧ Below wr.heap.size wr w')) (by kernel_rfl) ?hS121 (fun hHeld=>?rest121)
            case hS121=>((try dsimp only);(exact⟨⟨e0,e1,e2⟩,⟨f0,f1,f2⟩,zb9 (Below.refl _ _)⟩))
            case' rest121=>skip
            iterate 8 (refine tkN ?_;try simp only[PqL,Act.put])
            refine wpAnyH_ready (rs:= [8]) (by kernel_rfl) (by simp) ?_
            refine AllReadyH.cons (o:=_) rfl (fun K hK=>?_) .nil
            go_simp
            refine (HAH.out _ _ _).mono ?_
            rintro e w2 ⟨rfl,hb⟩
            have hb2:=zbd hb (zb9 (Below.refl wr.heap.size wr))
            try dsimp only
            refine hK.out _ _ ?hS132 (fun hHeld=>?rest132)
            case hS132=>((try dsimp only);(exact⟨⟨(hb2.cell (zal e0)).trans e0,(hb2.cell (zal e1)).trans e1,(hb2.cell (zal e2)).trans e2⟩,⟨(hb2.cell (zal f0)).trans f0,(hb2.cell (zal f1)).trans f1,(hb2.cell (zal f2)).trans f2⟩,hb2⟩))
            case' rest132=>(clear hK K;try simp only[PqL,Act.put])
            have HB2:=zak hb2
            clear hb hb2
            refine wpAnyH_done (by kernel_rfl) ?_ _
            have hEnd:=hHeld.2
            repeat (clear hHeld)
            clear hEnd e0 e1 e2 f0 f1 f2
            go_wp2_with fail
            go_roundw
            case rel=>exact⟨i+1,by omega,by omega,by go_num,by rw[HMF.out];rfl,zak ⟨HK.out.1.below HB2.out,HK.out.2.1.below HB2.out,zbd HB2.out HK.out.2.2⟩⟩
            case measure=>simp[intOf];omega
          · go_wp2_with fail
            refine wp_region_held_drew (S:=(fun w'=>(w'.cell? ⟨g,i * 3,none⟩=some (.int .i64 x.ix)∧ w'.cell? ⟨g,i * 3+1,none⟩=some (.int .i64 x.sub)∧ w'.cell? ⟨g,i * 3+2,none⟩=some (.slice d1.1 xl d1.2))∧ (w'.cell? ⟨g,k * 3,none⟩=some (.int .i64 y.ix)∧ w'.cell? ⟨g,k * 3+1,none⟩=some (.int .i64 y.sub)∧ w'.cell? ⟨g,k * 3+2,none⟩=some (.slice d2.1 yl d2.2))∧ Below wr.heap.size wr w')) (by kernel_rfl) ?hS134 (fun hHeld=>?rest134)
            case hS134=>((try dsimp only);(exact⟨⟨e0,e1,e2⟩,⟨f0,f1,f2⟩,zb9 (Below.refl _ _)⟩))
            case' rest134=>skip
            iterate 8 (refine tkN ?_;try simp only[PqL,Act.put])
            refine wpAnyH_ready (rs:= [8]) (by kernel_rfl) (by simp) ?_
            refine AllReadyH.cons (o:=_) rfl (fun K hK=>?_) .nil
            go_simp
            refine (HAH.out _ _ _).mono ?_
            rintro e w2 ⟨rfl,hb⟩
            have hb2:=zbd hb (zb9 (Below.refl wr.heap.size wr))
            try dsimp only
            refine hK.out _ _ ?hS145 (fun hHeld=>?rest145)
            case hS145=>((try dsimp only);(exact⟨⟨(hb2.cell (zal e0)).trans e0,(hb2.cell (zal e1)).trans e1,(hb2.cell (zal e2)).trans e2⟩,⟨(hb2.cell (zal f0)).trans f0,(hb2.cell (zal f1)).trans f1,(hb2.cell (zal f2)).trans f2⟩,hb2⟩))
            case' rest145=>(clear hK K;try simp only[PqL,Act.put])
            have HB2:=zak hb2
            clear hb hb2
            refine wpAnyH_done (by kernel_rfl) ?_ _
            have hEnd:=hHeld.2
            repeat (clear hHeld)
            clear hEnd e0 e1 e2 f0 f1 f2
            go_wp2_with fail
            go_roundw
            case rel=>exact⟨i+1,by omega,by omega,by go_num,by rw[HMF.out];rfl,zak ⟨HK.out.1.below HB2.out,HK.out.2.1.below HB2.out,zbd HB2.out HK.out.2.2⟩⟩
            case measure=>simp[intOf];omega
        · obtain rfl:m=i:=by omega
          clear him hi1
          obtain⟨k,hk⟩:∃ k,k=minF L m:=⟨_,rfl⟩
          obtain⟨hkm,hsel⟩:= zyl HK.out.1.hn hmp hk
          rw[← hk]
          have hkL:k < L.length:=by rw[← HK.out.1.hn];exact hkm
          have hkd:k < ds.length:=by rw[HK.out.1.hd];exact hkL
          obtain⟨v,hv⟩:∃ v,L[k]? =some v:=⟨L[k],List.getElem?_eq_getElem hkL⟩
          obtain⟨d,hd⟩:∃ d,ds[k]? =some d:=⟨ds[k],List.getElem?_eq_getElem hkd⟩
          obtain⟨g,hA,hgB,hgw⟩:= HK.out.1.own.at_ hmp
          subst hA
          obtain⟨e0,e1,e2⟩:= zu6 HK.out.1.own hv hd
          have hdt:=(HK.out.1.data k v d hv hd).below HK.out.2.2
          have hvf:=HC.out.1 v (List.mem_of_getElem? hv)
          have HSEL:Hid (selV m L=v :: selV (m - 1) (L.take k ++ L.drop (k+1))):= zak (by rw[hsel,List.getD_eq_getElem?_getD,hv];rfl)
          have HMC:Hid (m≤c):= zak HK.out.1.own.le
          obtain⟨d1,d2⟩:= d
          obtain⟨vl,hvl⟩:∃ vl,vl=v.data.length:=⟨_,rfl⟩
          have hlt0:=zx8 v d1 d2 wr (by omega) hdt
          rw[← hvl] at e2 hlt0
          have HLT:=zak hlt0
          have HVL:=zak hvl
          have hcut:∀ W,(Instr.slice 27 (.slice (some ⟨g,0,none⟩) m c) (some (.int .i64 ((k:Int)+1))) none none).run Tryz.prog W= .ok (.slice (cutA (some ⟨g,0,none⟩) c (k+1) 3) (m - (k+1)) (c - (k+1))) W:=by
           obtain⟨i0,hi0,hz0,hz1,hz2⟩:= info_parts znd
           exact fun W=>zbs Tryz.underlying27 hi0 hz1 (some ⟨g,0,none⟩) m c (k+1) _ _ (by omega) (by omega) HMC.out W
          have q1:(k:Int)≤ (c:Int):= by have:=HMC.out;omega
          have q2:(k:Int).toNat=k:=by omega
          have q3:(0:Int)≤ (k:Int):= by omega
          have q4: ¬ c=0:=by have:=HMC.out;omega
          have hwr:IntKind.i64.wrap ((k:Int)+1)=(k:Int)+1:=IntWalk.i64_in _ (by omega)
          clear hk hkL hkd hv hd hdt hvf hsel hvl hlt0 hgB hgw
          go_wp2_with fail
          refine HLT.out.mono ?_
          rintro e w2 ⟨A3,c3,rfl,hO3,hb2⟩
          have HPW:=zak (zvb HK.out.2.1.hd HK.out.2.1.data (show wr.heap.size≤wr.heap.size+2 by omega) hO3)
          have hba:=zbd (zbf (Below.refl w2.heap.size w2) (.cells #[.int .i64 v.ix,.int .i64 v.sub,.slice A3 vl c3] 52)) hb2
          have HO2:=zak (HK.out.2.1.below hba)
          have HA2:=zak (HK.out.1.below hba)
          have HB2:=zak (zbd hba HK.out.2.2)
          have HD3:Hid (zcd (w2.alloc (.cells #[.int .i64 v.ix,.int .i64 v.sub,.slice A3 vl c3] 52)) w.heap.size A3 v.data.length c3 v.data):= zak ((by
           rw[HVL.out] at hO3
           exact hO3.mono (by have:=HK.out.2.2.size;omega):zcd w2 w.heap.size A3 v.data.length c3 v.data).below (zbf (Below.refl w2.heap.size w2) _))
          have hmo2:mo+1≤400:=by omega
          clear hO3 hb2 hba e0 e1 e2 HLT
          go_wp2_with (at_builtin;first | (refine zye _ rfl _ _ rfl w.heap.size Ao mo co _ dso rfl HO2.out v (A3,c3) _ rfl (by rw[← HVL.out];exact (Blk.new _ _ _).sl) HD3.out HPW.out (by omega) HB2.out.size (mo+1) rfl ?_;intro A4 c4 w4 hO4 hg4 hr4 hb4) | (revert hr4))
          intro hr4
          obtain⟨go,hA4,hgoB,hgow⟩:= hO4.own.at_ (by omega)
          have HA4:=zak (HA2.out.grown hg4 (zyk HC.out.2 HO2.out.own))
          have HB4:=zak (HB2.out.trans hb4)
          have HGO:=zak (And.intro hA4 hgow)
          have HO4:=zak hO4
          clear hO4 hg4 hr4 hb4 hA4 hgoB hgow
          have hkL:k≤L.length:=by have:=HK.out.1.hn;omega
          have hdl:=HA4.out.hd
          have HYL:Hid ((cellsV (L.take k) (ds.take k)).length=k * 3∧(cellsV (L.drop (k+1)) (ds.drop (k+1))).length=(m - (k+1)) * 3):= zak ⟨by rw[zuy _ _ (by simp[hdl]),List.length_take,Nat.min_eq_left hkL],by rw[zuy _ _ (by simp[hdl]),List.length_drop,HK.out.1.hn]⟩
          have HYS:=zak (show Sl w4 (some ⟨g,0,none⟩) (cellsV (L.take k) (ds.take k)) from by rw[← zvh L ds k hdl];exact Sl.takeK HA4.out.own.sl (k * 3))
          clear hkL hdl
          refine zu5 _ rfl _ _ rfl w.heap.size none 0 0 [] rfl (Own.nil _ _ _ _) (some ⟨g,0,none⟩) k c (cellsV (L.take k) (ds.take k)) rfl HYL.out.1 HYS.out (zu0 _ _) (by omega) HB4.out.size k (by omega) ?_
          intro A6 c6 w6 hown6 hg6 hr6 hb6
          have HA6:=zak (HA4.out.grown hg6 (fun g' _=>by simp[Value.ownBlock]))
          have HO6:=zak (znh.grown HO4.out (Own.nil w4 w.heap.size 52 3) hg6 (fun g' _ h=>by cases h))
          have HB6:=zak (HB4.out.trans hb6)
          have HR6:=zak hr6
          have HW6:=zak hown6
          have HS6:=zak hg6.size
          have HYD:=zak (show Sl w6 (cutA (some ⟨g,0,none⟩) c (k+1) 3) (cellsV (L.drop (k+1)) (ds.drop (k+1))) from by
           rw[← zvi L ds (k+1) HA6.out.hd]
           exact Sl.cutA HA6.out.own.sl (by rw[zuy _ _ HA6.out.hd,← HA6.out.hn];have:=HMC.out;omega) (by omega))
          obtain⟨N',hN'⟩:∃ N',k+(m - (k+1))=N':=⟨_,rfl⟩
          have HN':=zak hN'
          clear hown6 hg6 hr6 hb6 hN'
          go_wp2_with (at_builtin;refine zu5 _ rfl _ _ rfl w.heap.size A6 k c6 _ rfl HW6.out (cutA (some ⟨g,0,none⟩) c (k+1) 3) (m - (k+1)) (c - (k+1)) (cellsV (L.drop (k+1)) (ds.drop (k+1))) rfl HYL.out.2 HYD.out (zu0 _ _) (by omega) HB6.out.size N' HN'.out ?_;intro A7 c7 w7 hown7 hg7 hr7 hb7)
          have hN':=HN'.out
          have hn6:∀ g',A4=some (⟨g',0,none⟩:Addr)→ A6≠some ⟨g',0,none⟩:= by
           intro g' h1 h2
           have h3:=HGO.out.1
           rw[h3] at h1
           injection h1 with h1
           injection h1 with h1
           have h4:=HGO.out.2
           rcases HR6.out with h5 | h5
           · rw[h5] at h2;cases h2
           · rw[h5] at h2
             injection h2 with h2
             injection h2 with h2
             omega
          go_roundw
          case rel=>
           refine⟨L.take k ++ L.drop (k+1),O ++ [v],A7,N',c7,ds.take k ++ ds.drop (k+1),A4,mo+1,c4,dso ++ [(A3,c3)],by omega,by omega,rfl,rfl,zak ?_,zak ⟨⟨?_,?_,?_,?_⟩,znh.grown HO6.out HW6.out hg7 hn6,?_,?_,HB6.out.trans hb7⟩⟩
           · rw[← HJ.out,HSEL.out,show N'=m - 1 by omega]
             simp
           · have:=HK.out.1.hn
             simp
             omega
           · simp[HA6.out.hd]
           · rw[zuz _ _ _ _ (by simp[HA6.out.hd])]
             exact hown7
           · exact zyg (by simp[HA6.out.hd]) (zym k HA6.out.data) (zyn (k+1) HA6.out.data)
           · intro x hx
             rcases List.mem_append.1 hx with h | h
             · exact HC.out.1 x (List.mem_of_mem_take h)
             · exact HC.out.1 x (List.mem_of_mem_drop h)
           · intro g' h1 h2
             rcases hr7 with h5 | h5
             · rw[h5] at h1
               exact hn6 g' h2 h1
             · rw[h5] at h1
               injection h1 with h1
               injection h1 with h1
               have h3:=HGO.out.1
               rw[h3] at h2
               injection h2 with h2
               injection h2 with h2
               have h4:=HGO.out.2
               have h6:=HS6.out
               omega
          case measure=>simp[lenOf];omega
end
end Go.Proofs.YtehabbnohoomjaaGreatDoor
