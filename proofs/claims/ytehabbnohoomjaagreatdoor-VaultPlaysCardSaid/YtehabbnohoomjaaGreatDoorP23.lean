/- None -/
import Derived.Test.YtehabbnohoomjaaGreatDoorP22
namespace Go.Proofs.YtehabbnohoomjaaGreatDoor
set_option linter.unusedVariables false
set_option linter.unusedSimpArgs false
set_option linter.unnecessarySimpa false
section
open Go.RowKit
set_option maxRecDepth 20000
set_option maxHeartbeats 1000000
theorem znd:(Tryz.prog.info? 52).map (fun i=>(i.zero,i.size,i.bytes))=some (some (.agg #[.int .i64 0,.int .i64 0,.slice none 0 0]),3,40):= by kernel_rfl
def cellsV:List SV→List (Option Addr×Nat)→ List Value
 | v :: L,d :: ds=> .int .i64 v.ix :: .int .i64 v.sub :: .slice d.1 v.data.length d.2 :: cellsV L ds
 | _,_=> []
theorem zne:∀ (L:List SV) (ds:List (Option Addr×Nat)) (j:Nat) (v:SV) (d:Option Addr×Nat),L[j]? =some v→ds[j]? =some d→
 (cellsV L ds)[j * 3]? =some (.int .i64 v.ix)∧ (cellsV L ds)[j * 3+1]? =some (.int .i64 v.sub)∧ (cellsV L ds)[j * 3+2]? =some (.slice d.1 v.data.length d.2):= by
 intro L
 induction L with
 | nil=>intro ds j v d h;simp at h
 | cons u L ih=>
   intro ds j v d h1 h2
   cases ds with
   | nil=>simp at h2
   | cons e ds=>
     cases j with
     | zero=>simp at h1 h2;subst h1;subst h2;simp[cellsV]
     | succ j=>
       have:=ih ds j v d (by simpa using h1) (by simpa using h2)
       have e1:(j+1) * 3=j * 3+3:=by omega
       have e2:(j+1) * 3+1=(j * 3+1)+3:=by omega
       have e3:(j+1) * 3+2=(j * 3+2)+3:=by omega
       rw[e2,e3,e1]
       exact this
theorem znf:∀ (L:List SV) (ds:List (Option Addr×Nat)) (v:SV) (d:Option Addr×Nat),ds.length=L.length→
 cellsV (L ++ [v]) (ds ++ [d])=cellsV L ds ++ [.int .i64 v.ix,.int .i64 v.sub,.slice d.1 v.data.length d.2]:= by
 intro L
 induction L with
 | nil=>
   intro ds v d h
   obtain rfl:ds= []:= List.eq_nil_of_length_eq_zero h
   rfl
 | cons u L ih=>
   intro ds v d h
   cases ds with
   | nil=>simp at h
   | cons e ds=>simp only[List.cons_append,cellsV];rw[ih ds v d (by simpa using h)]
theorem zng {w:World} {B B' e e' s s' n n' c c':Nat} {A A':Option Addr} {xs xs':List Value} (h:Own w B e s A n c xs) (h':Own w B' e' s' A' n' c' xs') (hne:e≠e') :
 ∀ g,A=some ⟨g,0,none⟩→ some g≠Value.ownBlock (.slice A' n' c'):= by
 intro g hA hg
 subst hA
 rcases h'.shape with ⟨rfl,_⟩ | ⟨g',rfl,_⟩
 · simp[Value.ownBlock] at hg
 · simp[Value.ownBlock] at hg
   subst hg
   rcases h.2 with ⟨hv,_⟩ | ⟨g1,cap,cur,hv,_,hg1,_⟩
   · injection hv with hv;cases hv
   · rcases h'.2 with ⟨hv',_⟩ | ⟨g2,cap',cur',hv',_,hg2,_⟩
     · injection hv' with hv';cases hv'
     · injection hv with hv;injection hv with hv;injection hv with hv
       injection hv' with hv';injection hv' with hv';injection hv' with hv'
       subst hv
       subst hv'
       rw[hg1] at hg2
       injection hg2 with hg2
       injection hg2 with _ ht
       exact hne ht
structure znh (w:World) (B:Nat) (A:Option Addr) (n c:Nat) (L:List SV) (ds:List (Option Addr×Nat)):Prop where
 hn:n=L.length
 hd:ds.length=L.length
 own:Own w B 52 3 A n c (cellsV L ds)
 data:∀ (j:Nat) (v:SV) (d:Option Addr×Nat),L[j]? =some v→ds[j]? =some d→zcd w B d.1 v.data.length d.2 v.data
 pw:ds.Pairwise (fun a b=> ∀ g,a.1=some (⟨g,0,none⟩:Addr)→ b.1≠some ⟨g,0,none⟩)
section
variable {w w':World} {B n c:Nat} {A:Option Addr} {L:List SV} {ds:List (Option Addr×Nat)}
theorem znh.nil (w:World) (B:Nat):znh w B none 0 0 [] []:= ⟨rfl,rfl,Own.nil _ _ _ _,by intro j v d h;simp at h,List.Pairwise.nil⟩
theorem znh.below (h:znh w B A n c L ds) (hb:Below w.heap.size w w'):znh w' B A n c L ds:=
 ⟨h.hn,h.hd,h.own.below hb,fun j v d h1 h2=>(h.data j v d h1 h2).below hb,h.pw⟩
theorem znh.mono {B':Nat} (h:znh w B A n c L ds) (hB:B'≤B):znh w B' A n c L ds:=
 ⟨h.hn,h.hd,h.own.mono hB,fun j v d h1 h2=>(h.data j v d h1 h2).mono hB,h.pw⟩
theorem znh.dat (h:znh w B A n c L ds) {j:Nat} {v:SV} (hv:L[j]? =some v):∃ d,ds[j]? =some d∧zcd w B d.1 v.data.length d.2 v.data:=by
 have hj:=(List.getElem?_eq_some_iff.1 hv).1
 have hj':j < ds.length:=by rw[h.hd];exact hj
 exact⟨ds[j],List.getElem?_eq_getElem hj',h.data j v _ hv (List.getElem?_eq_getElem hj')⟩
theorem znh.slV (h:znh w B A n c L ds):SlV w A L:=by
 intro j v hv
 obtain⟨d,hd,hO⟩:= h.dat hv
 obtain⟨e1,e2,e3⟩:= zne L ds j v d hv hd
 obtain⟨b,off,hA,c1⟩:= h.own.sl.at_ e1
 obtain⟨b2,off2,hA2,c2⟩:= h.own.sl.at_ e2
 obtain⟨b3,off3,hA3,c3⟩:= h.own.sl.at_ e3
 rw[hA] at hA2 hA3
 injection hA2 with hA2
 injection hA3 with hA3
 injection hA2 with q1 q2
 injection hA3 with q3 q4
 subst q1;subst q2;subst q3;subst q4
 exact⟨b,off,d.1,d.2,hA,c1,by rw[Nat.add_assoc];exact c2,by rw[Nat.add_assoc];exact c3,hO.own.le,hO.sl⟩
end
theorem zni {ops:Array Oper} {rest:List Oper} {o:Oper} {a:Act} {Q:Exit→Act→World→Prop} (w:World) (hgd:o.guard=none) (s x:Operand)
 (ho:o.op= .call { callee:= .builtin .append,args:= #[s,x],argTypes:= #[27,27] })
 (B:Nat) (A:Option Addr) (n c:Nat) (L:List SV) (ds:List (Option Addr×Nat)) (hs:a.eval s= .slice A n c) (hown:znh w B A n c L ds)
 (v:SV) (d:Option Addr×Nat) (A2:Option Addr) (hx:a.eval x= .slice A2 1 1)
 (hr:Sl w A2 [.int .i64 v.ix,.int .i64 v.sub,.slice d.1 v.data.length d.2]) (hv:zcd w B d.1 v.data.length d.2 v.data)
 (hnew:∀ d' ∈ ds,∀ g,d'.1=some (⟨g,0,none⟩:Addr)→ d.1≠some ⟨g,0,none⟩) (hb:n≤35184372088) (hB:B≤w.heap.size) (N:Nat) (hN:n+1=N)
 (h:∀ A' c' w',znh w' B A' N c' (L ++ [v]) (ds ++ [d])→ Below B w w'→wpList Tryz.prog ops Q rest (a.put o.dst (.slice A' N c')) w'):wpList Tryz.prog ops Q (o :: rest) a w:=by
 obtain⟨i0,hi0,hz0,hz1,hz2⟩:= info_parts znd
 refine za4 w hgd s x _ ho B 52 i0 _ 3 40 Tryz.underlying27 hi0 hz0 hz1 hz2 rfl (by omega) A n c _ hs hown.own A2 1 1 _ hx rfl hr (by intro u hu;simp at hu;rcases hu with rfl | rfl | rfl<;>rfl) (by unfold maxLen;omega) (by omega) hB N hN _ (znf L ds v d hown.hd).symm ?_
 intro A' c' w' h1 h2 h3 h4
 refine h A' c' w' ⟨by rw[← hN,hown.hn];simp,by simp[hown.hd],h1,?_,?_⟩ h4
 · intro j u d' hu hd'
   have keep:∀ {m:Nat} {dd:Option Addr×Nat} {l:List UInt8},zcd w B dd.1 m dd.2 l→zcd w' B dd.1 m dd.2 l:=fun hO=>⟨hO.hn,hO.own.grown h2 (zng hO.own hown.own (by decide))⟩
   rcases Nat.lt_or_ge j L.length with hj | hj
   · rw[List.getElem?_append_left hj] at hu
     rw[List.getElem?_append_left (by rw[hown.hd];exact hj)] at hd'
     exact keep (hown.data j u d' hu hd')
   · have hj':j=L.length:=by
      have:=(List.getElem?_eq_some_iff.1 hu).1
      simp at this
      omega
     subst hj'
     rw[List.getElem?_append_right (Nat.le_refl _)] at hu
     rw[List.getElem?_append_right (by rw[hown.hd];exact Nat.le_refl _)] at hd'
     simp at hu
     simp[hown.hd] at hd'
     subst hu
     subst hd'
     exact keep hv
 · rw[List.pairwise_append]
   refine⟨hown.pw,List.pairwise_singleton _ _,?_⟩
   intro a ha b hb
   simp at hb
   subst hb
   exact hnew a ha
end
end Go.Proofs.YtehabbnohoomjaaGreatDoor
