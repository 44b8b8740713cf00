/- None -/
import Derived.Test.YtehabbnohoomjaaGreatDoorP35
namespace Go.Proofs.YtehabbnohoomjaaGreatDoor
set_option linter.unusedVariables false
set_option linter.unusedSimpArgs false
set_option linter.unnecessarySimpa false
section
open Go.RowKit
set_option maxRecDepth 20000
set_option maxHeartbeats 4000000
theorem zu5 {ops:Array Oper} {rest:List Oper} {o:Oper} {a:Act} {Q:Exit→Act→World→Prop} (w:World) (hgd:o.guard=none) (s x:Operand)
 (ho:o.op= .call { callee:= .builtin .append,args:= #[s,x],argTypes:= #[27,27] })
 (B:Nat) (A:Option Addr) (n c:Nat) (xs:List Value) (hs:a.eval s= .slice A n c) (hown:Own w B 52 3 A n c xs)
 (A2:Option Addr) (m c2:Nat) (ys:List Value) (hx:a.eval x= .slice A2 m c2) (hl:ys.length=m * 3) (hr:Sl w A2 ys) (h1:∀ u ∈ ys,u.oneCell'=true) (hb:n+m≤1000000) (hB:B≤w.heap.size) (N:Nat) (hN:n+m=N)
 (h:∀ A' c' w',Own w' B 52 3 A' N c' (xs ++ ys)→ w.grownBy w' (Value.ownBlock (.slice A n c))→ (A'=A∨A'=some ⟨w.heap.size,0,none⟩)→ Below B w w'→wpList Tryz.prog ops Q rest (a.put o.dst (.slice A' N c')) w'):wpList Tryz.prog ops Q (o :: rest) a w:=by
 obtain⟨i0,hi0,hz0,hz1,hz2⟩:= info_parts znd
 exact za4 w hgd s x _ ho B 52 i0 _ 3 40 Tryz.underlying27 hi0 hz0 hz1 hz2 rfl (by omega) A n c _ hs hown A2 m c2 ys hx hl hr h1 (by unfold maxLen;omega) (by omega) hB N hN _ rfl h
theorem zu6 {w:World} {B g n c:Nat} {L:List SV} {ds:List (Option Addr×Nat)} {k:Nat} {v:SV} {d:Option Addr×Nat} (h:Own w B 52 3 (some ⟨g,0,none⟩) n c (cellsV L ds)) (hv:L[k]? =some v) (hd:ds[k]? =some d) :
 w.cell? ⟨g,k * 3,none⟩=some (.int .i64 v.ix)∧ w.cell? ⟨g,k * 3+1,none⟩=some (.int .i64 v.sub)∧ w.cell? ⟨g,k * 3+2,none⟩=some (.slice d.1 v.data.length d.2):= by
 obtain⟨e1,e2,e3⟩:= zne L ds k v d hv hd
 have q:∀ {j:Nat} {u:Value},(cellsV L ds)[j]? =some u→w.cell? ⟨g,j,none⟩=some u:=by
  intro j u hu
  obtain⟨ad,h1,h2⟩:= h.sl j u hu
  injection h1 with h1
  subst h1
  have e:(⟨g,0,none⟩:Addr).add j=⟨g,j,none⟩:= by unfold Addr.add;split<;>simp_all
  rw[e] at h2
  exact h2
 exact⟨q e1,q e2,q e3⟩
theorem zu7 {w:World} {B g n c:Nat} {xs:List Value} (h:Own w B 52 3 (some ⟨g,0,none⟩) n c xs) (i:Nat):w.frozen? ⟨g,i,none⟩=false:=by
 rcases h.2 with ⟨hv,_⟩ | ⟨g',cap,cur,hv,_,hg,_⟩
 · cases hv
 · injection hv with hv;injection hv with hv;injection hv with hv
   subst hv
   simp[World.frozen?,hg]
theorem zu8 {L:List SV} {ds:List (Option Addr×Nat)} {P:SV→Option Addr×Nat→Prop} (hd:ds.length=L.length) (h:∀ (j:Nat) (v:SV) (d:Option Addr×Nat),L[j]? =some v→ds[j]? =some d→P v d) {k:Nat} (hk:k≤L.length) {v0:SV} {d0:Option Addr×Nat} (h0:P v0 d0) :
 ∀ (j:Nat) (v:SV) (d:Option Addr×Nat),(L.take k ++ v0 :: L.drop k)[j]? =some v→(ds.take k ++ d0 :: ds.drop k)[j]? =some d→P v d:=by
 intro j v d hv hd'
 have l1:(L.take k).length=k:=by rw[List.length_take];omega
 have l2:(ds.take k).length=k:=by rw[List.length_take];omega
 rcases Nat.lt_trichotomy j k with hj | hj | hj
 · rw[List.getElem?_append_left (by omega),List.getElem?_take,if_pos hj] at hv hd'
   exact h j v d hv hd'
 · subst hj
   rw[List.getElem?_append_right (by omega),l1,Nat.sub_self] at hv
   rw[List.getElem?_append_right (by omega),l2,Nat.sub_self] at hd'
   simp at hv hd'
   subst hv
   subst hd'
   exact h0
 · rw[List.getElem?_append_right (by omega),l1,show j - k=(j - k - 1)+1 by omega,List.getElem?_cons_succ,List.getElem?_drop] at hv
   rw[List.getElem?_append_right (by omega),l2,show j - k=(j - k - 1)+1 by omega,List.getElem?_cons_succ,List.getElem?_drop] at hd'
   exact h _ v d hv hd'
theorem zu9 {L:List SV} {ds:List (Option Addr×Nat)} {P:SV→Option Addr×Nat→Prop} (hd:ds.length=L.length) (h:∀ (j:Nat) (v:SV) (d:Option Addr×Nat),L[j]? =some v→ds[j]? =some d→P v d) {k:Nat} {v0:SV} {d0:Option Addr×Nat} (h0:P v0 d0) :
 ∀ (j:Nat) (v:SV) (d:Option Addr×Nat),(L.set k v0)[j]? =some v→(ds.set k d0)[j]? =some d→P v d:=by
 intro j v d hv hd'
 rcases Nat.decEq k j with hj | hj
 · rw[List.getElem?_set_ne hj] at hv hd'
   exact h j v d hv hd'
 · subst hj
   have hl:=(List.getElem?_eq_some_iff.1 hv).1
   rw[List.length_set] at hl
   rw[List.getElem?_set_self hl] at hv
   rw[List.getElem?_set_self (by omega)] at hd'
   injection hv with hv
   injection hd' with hd'
   subst hv
   subst hd'
   exact h0
abbrev InsR (B:Nat) (L:List SV) (v:SV) (w:World) (e:Ending) (w':World):Prop:= ∃ A' n' c' ds',e= .returned (.slice A' n' c')∧ znh w' B A' n' c' (insV L v) ds'∧Below B w w'
theorem zva {w w':World} {B e2 n c m c2 g:Nat} {A:Option Addr} {xs:List Value} {l:List UInt8} (hO:zcd w B A m c2 l) (hown:Own w e2 52 3 (some ⟨g,0,none⟩) n c xs) (hb:∀ i,i < w.heap.size→i≠g→w'.heap[i]? =w.heap[i]?):zcd w' B A m c2 l:=
 ⟨hO.hn,hO.own.keep fun i _ hlt hA=>hb i hlt (fun e=>by
   have:=zng hO.own hown (by decide) i hA
   rw[e] at this
   exact this rfl)⟩
theorem zvb {w w1:World} {B:Nat} {L:List SV} {ds:List (Option Addr×Nat)} {m c':Nat} {l:List UInt8} {A':Option Addr} {N:Nat} (hd:ds.length=L.length) (hdat:∀ (j:Nat) (v:SV) (d:Option Addr×Nat),L[j]? =some v→ds[j]? =some d→zcd w B d.1 v.data.length d.2 v.data) (hN:w.heap.size≤N) (hn:zcd w1 N A' m c' l) :
 ∀ d' ∈ ds,∀ g,d'.1=some (⟨g,0,none⟩:Addr)→ A'≠some ⟨g,0,none⟩:= by
 intro d' hd' g hg hA1
 obtain⟨j,hj,rfl⟩:= List.getElem_of_mem hd'
 have hjL:j < L.length:=by omega
 have hx:=hdat j L[j] ds[j] (List.getElem?_eq_getElem hjL) (List.getElem?_eq_getElem hj)
 rcases hx.own.shape with ⟨h1,_⟩ | ⟨g1,h1,_,h3⟩
 · rw[h1] at hg;cases hg
 · rw[h1] at hg
   injection hg with hg
   injection hg with hg
   subst hg
   rcases hn.own.shape with ⟨h4,_⟩ | ⟨g2,h4,h5,_⟩
   · rw[h4] at hA1;cases hA1
   · rw[h4] at hA1
     injection hA1 with hA1
     injection hA1 with hA1
     omega
theorem zvc {N B:Nat} {w w':World} (h:Below N w w') (hB:B≤N):Below B w w':=⟨h.os,h.tape,h.output,h.size,fun k hk=>h.block k (Nat.lt_of_lt_of_le hk hB)⟩
theorem zvd (a b:Option Addr×Nat) (h:∀ g,a.1=some (⟨g,0,none⟩:Addr)→ b.1≠some ⟨g,0,none⟩):∀ g,b.1=some (⟨g,0,none⟩:Addr)→ a.1≠some ⟨g,0,none⟩:= fun g hb ha=>h g ha hb
theorem zve {B g:Nat} {w w4:World} (h:Below B w w4) (hg:B≤g) (k:Nat) (x:SV) (A:Option Addr) (c:Nat):Below B w (stoV w4 g k x A c):=
 zbp (zbp (zbp h (p:=⟨g,_,none⟩) hg _) (p:=⟨g,_,none⟩) hg _) (p:=⟨g,_,none⟩) hg _
theorem zvf {w w4:World} {B g n c k N c4:Nat} {L:List SV} {ds:List (Option Addr×Nat)} {v:SV} {A4:Option Addr} (hO:znh w B (some ⟨g,0,none⟩) n c L ds) (hB:B≤w.heap.size) (hgB:B≤g) (hk:k < n)
 (hj:∀ j u,j < k→L[j]? =some u→ahV u v=true) (u:SV) (hu:L[k]? =some u) (h1:ahV u v=false) (h2:ahV v u=false) (hb4:Below w.heap.size w w4) (hN:w.heap.size≤N) (h4:zcd w4 N A4 v.data.length c4 v.data) :
 znh (stoV w4 g k v A4 c4) B (some ⟨g,0,none⟩) n c (insV L v) (ds.set k (A4,c4))∧ Below B w (stoV w4 g k v A4 c4):= by
 have hkL:k < L.length:=by rw[← hO.hn];exact hk
 have hins:insV L v=L.set k v:=by
  rw[zuj (i:=k) (by omega) hj (fun x hx=>by rw[hu] at hx;injection hx with hx;rw[← hx];exact h1),if_pos ⟨u,hu,h2⟩,List.set_eq_take_append_cons_drop,if_pos hkL]
 rw[hins]
 have o4:=hO.own.below hb4
 have blk:∀ i,i < w4.heap.size→i≠g→(stoV w4 g k v A4 c4).heap[i]? =w4.heap[i]? :=fun i _ hne=>zu2 v A4 c4 hne
 refine⟨⟨by rw[List.length_set];exact hO.hn,by simp[hO.hd],zu1 o4 hO.hd hkL v A4 c4,?_,zu3 zvd hO.pw ?_⟩,zve (zvc hb4 hB) hgB k v A4 c4⟩
 · refine zu9 hO.hd ?_ ?_
   · intro j x d hx hd
     exact zva ((hO.data j x d hx hd).below hb4) o4 blk
   · exact zva (h4.mono (Nat.le_trans hB hN)) o4 blk
 · intro d' hd' g' hg'
   exact zvb hO.hd hO.data hN h4 d' hd' g' hg'
theorem zvg {α:Type} (L:List α) (z v: α) {k:Nat} (hk:k≤L.length):((L ++ [z]).take (k+1) ++ L.drop k).set k v=L.take k ++ v :: L.drop k:=by
 apply List.ext_getElem?
 intro j
 rw[List.getElem?_set]
 have l1:((L ++ [z]).take (k+1)).length=k+1:=by simp;omega
 have l2:(L.take k).length=k:=by simp;omega
 rcases Nat.lt_trichotomy j k with hj | hj | hj
 · rw[if_neg (by omega),List.getElem?_append_left (by omega),List.getElem?_append_left (by omega),List.getElem?_take,List.getElem?_take,if_pos (by omega),if_pos hj,List.getElem?_append_left (by omega)]
 · subst hj
   rw[if_pos rfl,if_pos (by simp;omega),List.getElem?_append_right (by omega),l2,Nat.sub_self]
   rfl
 · rw[if_neg (by omega),List.getElem?_append_right (by omega),l1,List.getElem?_append_right (by omega),l2,show j - k=(j - (k+1))+1 by omega,List.getElem?_cons_succ]
theorem zvh:∀ (L:List SV) (ds:List (Option Addr×Nat)) (k:Nat),ds.length=L.length→(cellsV L ds).take (k * 3)=cellsV (L.take k) (ds.take k)
 | [],_,_,_=>by simp[cellsV]
 | _ :: _,[],_,h=>by simp at h
 | x :: L,d :: ds,0,_=>by simp[cellsV]
 | x :: L,d :: ds,k+1,h=>by
   rw[zuw,List.take_succ_cons,List.take_succ_cons,zuw,← zvh L ds k (by simpa using h),List.take_append]
   have e:(valC3 x d).length=3:=rfl
   rw[e,show (k+1) * 3 - 3=k * 3 by omega,List.take_of_length_le (by rw[e];omega)]
theorem zvi:∀ (L:List SV) (ds:List (Option Addr×Nat)) (k:Nat),ds.length=L.length→(cellsV L ds).drop (k * 3)=cellsV (L.drop k) (ds.drop k)
 | [],_,_,_=>by simp[cellsV]
 | _ :: _,[],_,h=>by simp at h
 | x :: L,d :: ds,0,_=>by simp
 | x :: L,d :: ds,k+1,h=>by
   rw[zuw,List.drop_succ_cons,List.drop_succ_cons,← zvi L ds k (by simpa using h),List.drop_append]
   have e:(valC3 x d).length=3:=rfl
   rw[e,show (k+1) * 3 - 3=k * 3 by omega,List.drop_of_length_le (by rw[e];omega),List.nil_append]
def zcel:List Value:= [.int .i64 0,.int .i64 0,.slice none 0 0]
def shL (L:List SV) (k:Nat):List SV:=(L ++ [svZ]).take (k+1) ++ L.drop k
def shD (ds:List (Option Addr×Nat)) (k:Nat):List (Option Addr×Nat):= (ds ++ [(none,0)]).take (k+1) ++ ds.drop k
theorem zvj (L:List SV) (ds:List (Option Addr×Nat)) (hd:ds.length=L.length) (k:Nat) (hk:k≤L.length) :
 (cellsV L ds ++ zcel).take ((k+1) * 3) ++ (cellsV (L.drop k) (ds.drop k) ++ (cellsV L ds ++ zcel).drop ((k+1) * 3+(cellsV (L.drop k) (ds.drop k)).length))=cellsV (shL L k) (shD ds k):= by
 have e:cellsV L ds ++ zcel=cellsV (L ++ [svZ]) (ds ++ [(none,0)]):= (znf L ds svZ (none,0) hd).symm
 have hl:(cellsV (L.drop k) (ds.drop k)).length=(L.length - k) * 3:=by rw[zuy _ _ (by simp[hd]),List.length_drop]
 have hdr:(cellsV (L ++ [svZ]) (ds ++ [(none,0)])).drop ((k+1) * 3+(L.length - k) * 3)= []:= List.drop_of_length_le (by rw[zuy _ _ (by simp[hd])];simp;omega)
 rw[e,hl,hdr,zvh _ _ _ (by simp[hd]),List.append_nil]
 exact (zuz _ _ _ _ (by simp[hd])).symm
theorem zvk (L:List SV) (k:Nat) (hk:k≤L.length):(shL L k).length=L.length+1:=by unfold shL;simp;omega
theorem zvl (ds:List (Option Addr×Nat)) (k:Nat) (hk:k≤ds.length):(shD ds k).length=ds.length+1:=by unfold shD;simp;omega
theorem zvm {w W w1 w2 w4:World} {B g1 n c1 N c k M c4:Nat} {A:Option Addr} {L:List SV} {ds:List (Option Addr×Nat)} {v:SV} {A4:Option Addr} (hO:znh w B A n c L ds) (hB:B≤w.heap.size) (hk:k≤n) (hN:n+1=N)
 (hj:∀ j u,j < k→L[j]? =some u→ahV u v=true) (hu:∀ u,L[k]? =some u→ahV u v=false∧ahV v u=true) (hb:Below w.heap.size w W)
 {xs1:List Value} (o1:Own w1 B 52 3 (some ⟨g1,0,none⟩) N c1 xs1) (hg1:W.grownBy w1 (Value.ownBlock (.slice A n c)))
 (o2:Own w2 B 52 3 (some ⟨g1,0,none⟩) N c1 (cellsV (shL L k) (shD ds k))) (hg2:w1.grownBy w2 (some g1)) (hb4:Below w2.heap.size w2 w4) (hM:w.heap.size≤M) (h4:zcd w4 M A4 v.data.length c4 v.data) :
 znh (stoV w4 g1 k v A4 c4) B (some ⟨g1,0,none⟩) N c1 (insV L v) (ds.take k ++ (A4,c4) :: ds.drop k)∧ Below B w (stoV w4 g1 k v A4 c4):= by
 have hkL:k≤L.length:=by rw[← hO.hn];exact hk
 have hkd:k≤ds.length:=by rw[hO.hd];exact hkL
 have hins:insV L v=L.take k ++ v :: L.drop k:=by
  rw[zuj (i:=k) hkL hj (fun x hx=>(hu x hx).1),if_neg]
  rintro⟨u,e,h⟩
  rw[(hu u e).2] at h
  cases h
 rw[hins]
 obtain⟨g,hg,hgB,_⟩:= o1.at_ (by omega)
 have hgB1:B≤g1:=by injection hg with hg;injection hg with hg;omega
 have o4:=o2.below hb4
 have blk:∀ i,i < w4.heap.size→i≠g1→(stoV w4 g1 k v A4 c4).heap[i]? =w4.heap[i]? :=fun i _ hne=>zu2 v A4 c4 hne
 have own5:=zu1 o4 (by rw[zvl _ _ hkd,zvk _ _ hkL,hO.hd]) (k:=k) (by rw[zvk _ _ hkL];omega) v A4 c4
 unfold shL shD at own5
 rw[zvg _ _ _ hkL,zvg _ _ _ hkd] at own5
 have hBW:B≤W.heap.size:=Nat.le_trans hB hb.size
 have b1:Below B w w1:=(zvc hb hB).trans (za2 (hO.own.below hb) hBW hg1)
 have b2:Below B w w2:=b1.trans ((Below.refl _ _).grown hg2 (Nat.le_trans hBW hg1.size) (fun k hk=>by injection hk with hk;omega))
 have b4:Below B w w4:=b2.trans (zvc hb4 (Nat.le_trans (Nat.le_trans hBW hg1.size) hg2.size))
 refine⟨⟨by simp;have:=hO.hn;omega,by simp[hO.hd],own5,?_,zu4 zvd k hO.pw ?_⟩,zve b4 hgB1 k v A4 c4⟩
 · refine zu8 hO.hd ?_ hkL ?_
   · intro j x d hx hd
     have q0:=(hO.data j x d hx hd).below hb
     have q1:zcd w1 B d.1 x.data.length d.2 x.data:=⟨q0.hn,q0.own.grown hg1 (zng q0.own (hO.own.below hb) (by decide))⟩
     have q2:zcd w2 B d.1 x.data.length d.2 x.data:=⟨q1.hn,q1.own.grown hg2 (zng q1.own o1 (by decide))⟩
     exact zva (q2.below hb4) o4 blk
   · exact zva (h4.mono (Nat.le_trans hB hM)) o4 blk
 · intro d' hd' g' hg'
   exact zvb hO.hd hO.data hM h4 d' hd' g' hg'
theorem zvn {w:World} {B g N c k:Nat} {L:List SV} {ds:List (Option Addr×Nat)} (hd:ds.length=L.length) (h:Own w B 52 3 (some ⟨g,0,none⟩) N c (cellsV L ds ++ zcel)):∀ j u,(cellsV (L.drop k) (ds.drop k))[j]? =some u→w.cell? ((⟨g,k * 3,none⟩:Addr).add j)=some u:=by
 intro j u hu
 rw[← zvi L ds k hd,List.getElem?_drop] at hu
 have hlt:=(List.getElem?_eq_some_iff.1 hu).1
 obtain⟨ad,h1,h2⟩:= h.sl (k * 3+j) u (by rw[List.getElem?_append_left hlt];exact hu)
 injection h1 with h1
 subst h1
 have e:∀ o i:Nat,(⟨g,o,none⟩:Addr).add i=⟨g,o+i,none⟩:= by intro o i;unfold Addr.add;split<;>simp_all
 rw[e] at h2 ⊢
 rw[Nat.zero_add] at h2
 exact h2
theorem zvo {w:World} {B e s n c:Nat} {A:Option Addr} {xs:List Value} (h:Own w B e s A n c xs):some w.heap.size≠Value.ownBlock (.slice A n c):= by
 rcases h.shape with ⟨rfl,_⟩ | ⟨g,rfl,_,hg⟩
 · simp[Value.ownBlock]
 · simp[Value.ownBlock];omega
theorem zvp (B:Nat) (A:Option Addr) (n c:Nat) (L:List SV) (ds:List (Option Addr×Nat)) (v:SV) (Av:Option Addr) (cv:Nat) (w:World) (hO:znh w B A n c L ds) (hB:B≤w.heap.size) (hn4:n≤1000) (hf:v.data.length≤2000) (hs:∀ W,Below B w W→Sl W Av (v.data.map bv)) :
 Calls Tryz.prog 94 #[.slice A n c,.agg #[.int .i64 v.ix,.int .i64 v.sub,.slice Av v.data.length cv]] w (InsR B L v w):= by
 have q0:=zbm w 52 #[.int .i64 v.ix,.int .i64 v.sub,.slice Av v.data.length cv]
 have hb0:=zbf (Below.refl w.heap.size w) (.cells #[.int .i64 v.ix,.int .i64 v.sub,.slice Av v.data.length cv] 52)
 have HO:=zak hO
 have HB:=zak hB
 have HS:=zak hs
 have HF:=zak hf
 obtain⟨R,hR⟩:∃ R,R=InsR B L v w:=⟨_,rfl⟩
 rw[← hR]
 have HR:=zak hR
 obtain⟨P,hP⟩:∃ P,P=w.heap.size:=⟨_,rfl⟩
 obtain⟨vl,hvl⟩:∃ vl,vl=v.data.length:=⟨_,rfl⟩
 rw[← hvl] at q0 hb0 HF ⊢
 obtain⟨W1,hW1⟩:∃ W,W=w.alloc (.cells #[.int .i64 v.ix,.int .i64 v.sub,.slice Av vl cv] 52):= ⟨_,rfl⟩
 have HW1:=zak hW1
 have HP:=zak hP
 have HVL:=zak hvl
 rw[← hP] at q0
 rw[← hW1] at q0 hb0
 have HQ:=zak q0
 have HB0:=zak hb0
 clear hO hB hs hf hR hP hvl hW1 q0 hb0
 go_enter Tryz.func94,Tryz.ntmps94
 go_wp2_with fail
 rw[← HW1.out,← HP.out]
 go_loopw [5] (fun i wr=> ∃ k:Nat,k≤n∧i= .int .i64 (k:Nat)∧ Hid (∀ j u,j < k→L[j]? =some u→ahV u v=true)∧ Hid (Below w.heap.size w wr)∧ Hid (Blk wr P 52 #[.int .i64 v.ix,.int .i64 v.sub,.slice Av vl cv])) (fun i _=>n - (intOf i).toNat)
 case atStart=>exact⟨0,by omega,rfl,zak (by intro j u h;omega),HB0,HQ⟩
 case round=>
  obtain⟨k,hk,rfl,HJ,HBr,HPr⟩:= hrel
  have pc0:=HPr.out.cell 0 (u:= .int .i64 v.ix) rfl
  have pc1:=HPr.out.cell 1 (u:= .int .i64 v.sub) rfl
  have pc2:=HPr.out.cell 2 (u:= .slice Av vl cv) rfl
  by_cases hlt:k < n
  · obtain⟨u,hu⟩:∃ u,L[k]? =some u:=⟨L[k]'(by have:=HO.out.hn;omega),List.getElem?_eq_getElem _⟩
    obtain⟨d,hd,_⟩:= HO.out.dat hu
    obtain⟨g,hA,hgB,hgw⟩:= HO.out.own.at_ (by omega)
    subst hA
    obtain⟨c0,c1,c2⟩:= zu6 (HO.out.own.below HBr.out) hu hd
    obtain⟨i1,i2,i3⟩:= zbr hlt
    have HU:=zak (And.intro hu hd)
    have HGP:Hid (g≠P∧g < w.heap.size):= zak ⟨by rw[HP.out];omega,hgw⟩
    have HGB:=zak hgB
    obtain⟨d1,d2⟩:= d
    obtain⟨ul,hul⟩:∃ ul,ul=u.data.length:=⟨_,rfl⟩
    rw[← hul] at c2
    clear hu hd hgB hgw hul
    have hah:=zak (show aheadB u.ix u.sub v.ix v.sub=ahV u v from rfl)
    have hah2:=zak (show aheadB v.ix v.sub u.ix u.sub=ahV v u from rfl)
    cases h1:ahV u v
    · have H1:=zak h1
      rw[h1] at hah
      cases h2:ahV v u
      · have H2:=zak h2
        rw[h2] at hah2
        clear h1 h2
        go_wp2_with fail
        refine wp_region_held_drew (S:=(fun w'=>(w'.cell? ⟨P,0,none⟩=some (.int .i64 v.ix)∧ w'.cell? ⟨P,1,none⟩=some (.int .i64 v.sub)∧ w'.cell? ⟨P,2,none⟩=some (.slice Av vl cv))∧ (w'.cell? ⟨g,k * 3,none⟩=some (.int .i64 u.ix)∧ w'.cell? ⟨g,k * 3+1,none⟩=some (.int .i64 u.sub)∧ w'.cell? ⟨g,k * 3+2,none⟩=some (.slice d1 ul d2))∧ Below wr.heap.size wr w')) (by kernel_rfl) ?hS1 (fun hHeld=>?rest1)
        case hS1=>((try dsimp only);(exact⟨⟨pc0,pc1,pc2⟩,⟨c0,c1,c2⟩,zb9 (Below.refl _ _)⟩))
        case' rest1=>skip
        iterate 10 (refine tkN ?_;try simp only[PqL,Act.put])
        refine wpAnyH_ready (rs:= [10]) (by kernel_rfl) (by simp) ?_
        refine AllReadyH.cons (o:=_) rfl (fun K hK=>?_) .nil
        go_simp
        refine (znm _ _ _ _ _ _ _).mono ?_
        rintro e w2 ⟨rfl,hb⟩
        rw[hah.out]
        have hb2:=zbd hb (zb9 (Below.refl wr.heap.size wr))
        have HB2:=zak (zbd hb2 HBr.out)
        have HP2:=zak (HPr.out.below hb2 HPr.out.lt)
        have k2:(w2.cell? ⟨P,0,none⟩=some (.int .i64 v.ix)∧ w2.cell? ⟨P,1,none⟩=some (.int .i64 v.sub)∧ w2.cell? ⟨P,2,none⟩=some (.slice Av vl cv))∧ (w2.cell? ⟨g,k * 3,none⟩=some (.int .i64 u.ix)∧ w2.cell? ⟨g,k * 3+1,none⟩=some (.int .i64 u.sub)∧ w2.cell? ⟨g,k * 3+2,none⟩=some (.slice d1 ul d2))∧ Below wr.heap.size wr w2:=⟨⟨(hb2.cell (zal pc0)).trans pc0,(hb2.cell (zal pc1)).trans pc1,(hb2.cell (zal pc2)).trans pc2⟩,⟨(hb2.cell (zal c0)).trans c0,(hb2.cell (zal c1)).trans c1,(hb2.cell (zal c2)).trans c2⟩,hb2⟩
        try dsimp only
        refine hK.out _ _ ?hS14 (fun hHeld=>?rest14)
        case hS14=>((try dsimp only);(exact k2))
        case' rest14=>(clear hK K;try simp only[PqL,Act.put])
        clear hb hb2
        refine tkH 11 ?_
        try simp only[PqL,Act.put]
        refine wpAnyH_done (by kernel_rfl) ?_ _
        have hEnd:=hHeld.2
        repeat (clear hHeld)
        obtain⟨⟨e0,e1,e2⟩,⟨f0,f1,f2⟩,_⟩:= k2
        clear hEnd pc0 pc1 pc2 c0 c1 c2
        go_wp2_with fail
        refine wp_region_held_drew (S:=(fun w'=>(w'.cell? ⟨P,0,none⟩=some (.int .i64 v.ix)∧ w'.cell? ⟨P,1,none⟩=some (.int .i64 v.sub)∧ w'.cell? ⟨P,2,none⟩=some (.slice Av vl cv))∧ (w'.cell? ⟨g,k * 3,none⟩=some (.int .i64 u.ix)∧ w'.cell? ⟨g,k * 3+1,none⟩=some (.int .i64 u.sub)∧ w'.cell? ⟨g,k * 3+2,none⟩=some (.slice d1 ul d2))∧ Below w2.heap.size w2 w')) (by kernel_rfl) ?hS17 (fun hHeld=>?rest17)
        case hS17=>((try dsimp only);(exact⟨⟨e0,e1,e2⟩,⟨f0,f1,f2⟩,zb9 (Below.refl _ _)⟩))
        case' rest17=>skip
        iterate 10 (refine tkN ?_;try simp only[PqL,Act.put])
        refine wpAnyH_ready (rs:= [10]) (by kernel_rfl) (by simp) ?_
        refine AllReadyH.cons (o:=_) rfl (fun K hK=>?_) .nil
        go_simp
        refine (znm _ _ _ _ _ _ _).mono ?_
        rintro e w3 ⟨rfl,hb⟩
        rw[hah2.out]
        have hb3:=zbd hb (zb9 (Below.refl w2.heap.size w2))
        have HB3:=zak (zbd hb3 HB2.out)
        have HP3:=zak (HP2.out.below hb3 HP2.out.lt)
        have k3:(w3.cell? ⟨P,0,none⟩=some (.int .i64 v.ix)∧ w3.cell? ⟨P,1,none⟩=some (.int .i64 v.sub)∧ w3.cell? ⟨P,2,none⟩=some (.slice Av vl cv))∧ (w3.cell? ⟨g,k * 3,none⟩=some (.int .i64 u.ix)∧ w3.cell? ⟨g,k * 3+1,none⟩=some (.int .i64 u.sub)∧ w3.cell? ⟨g,k * 3+2,none⟩=some (.slice d1 ul d2))∧ Below w2.heap.size w2 w3:=⟨⟨(hb3.cell (zal e0)).trans e0,(hb3.cell (zal e1)).trans e1,(hb3.cell (zal e2)).trans e2⟩,⟨(hb3.cell (zal f0)).trans f0,(hb3.cell (zal f1)).trans f1,(hb3.cell (zal f2)).trans f2⟩,hb3⟩
        try dsimp only
        refine hK.out _ _ ?hS30 (fun hHeld=>?rest30)
        case hS30=>((try dsimp only);(exact k3))
        case' rest30=>(clear hK K;try simp only[PqL,Act.put])
        clear hb hb3
        refine tkH 11 ?_
        try simp only[PqL,Act.put]
        refine tkH 12 ?_
        try simp only[PqL,Act.put]
        refine wpAnyH_done (by kernel_rfl) ?_ _
        have hEnd:=hHeld.2
        repeat (clear hHeld)
        obtain⟨⟨e0',e1',e2'⟩,⟨f0',f1',f2'⟩,_⟩:= k3
        clear hEnd e0 e1 e2 f0 f1 f2
        go_wp2_with fail
        refine (znn _ _ _ _ _ v.data w3 HVL.out (by have:=HF.out;omega) (HS.out _ (zvc HB3.out HB.out))).mono ?_
        rintro e w4 ⟨A4,c4,rfl,hO4,hb4⟩
        have HB4:=zak (zbd hb4 HB3.out)
        have HO4:=zak hO4
        have O4:=HO.out.own.below HB4.out
        have g0:=(hb4.cell (zal f0')).trans f0'
        have g1:=(hb4.cell (zal f1')).trans f1'
        have g2:=(hb4.cell (zal f2')).trans f2'
        have fz:=zu7 O4
        have h34:=hb4.size
        have H34:=zak h34
        clear hO4 hb4 f0' f1' f2' e0' e1' e2' O4 h34
        go_wp2_with fail
        rw[HR.out]
        have hz:=HVL.out
        subst hz
        have hfin:=zvf HO.out HB.out HGB.out hlt HJ.out u HU.out.1 H1.out H2.out HB4.out HB3.out.size HO4.out
        exact⟨_,_,_,_,rfl,hfin.1,hfin.2⟩
      · have H2:=zak h2
        rw[h2] at hah2
        clear h1 h2
        go_wp2_with fail
        refine wp_region_held_drew (S:=(fun w'=>(w'.cell? ⟨P,0,none⟩=some (.int .i64 v.ix)∧ w'.cell? ⟨P,1,none⟩=some (.int .i64 v.sub)∧ w'.cell? ⟨P,2,none⟩=some (.slice Av vl cv))∧ (w'.cell? ⟨g,k * 3,none⟩=some (.int .i64 u.ix)∧ w'.cell? ⟨g,k * 3+1,none⟩=some (.int .i64 u.sub)∧ w'.cell? ⟨g,k * 3+2,none⟩=some (.slice d1 ul d2))∧ Below wr.heap.size wr w')) (by kernel_rfl) ?hS34 (fun hHeld=>?rest34)
        case hS34=>((try dsimp only);(exact⟨⟨pc0,pc1,pc2⟩,⟨c0,c1,c2⟩,zb9 (Below.refl _ _)⟩))
        case' rest34=>skip
        iterate 10 (refine tkN ?_;try simp only[PqL,Act.put])
        refine wpAnyH_ready (rs:= [10]) (by kernel_rfl) (by simp) ?_
        refine AllReadyH.cons (o:=_) rfl (fun K hK=>?_) .nil
        go_simp
        refine (znm _ _ _ _ _ _ _).mono ?_
        rintro e w2 ⟨rfl,hb⟩
        rw[hah.out]
        have hb2:=zbd hb (zb9 (Below.refl wr.heap.size wr))
        have HB2:=zak (zbd hb2 HBr.out)
        have HP2:=zak (HPr.out.below hb2 HPr.out.lt)
        have k2:(w2.cell? ⟨P,0,none⟩=some (.int .i64 v.ix)∧ w2.cell? ⟨P,1,none⟩=some (.int .i64 v.sub)∧ w2.cell? ⟨P,2,none⟩=some (.slice Av vl cv))∧ (w2.cell? ⟨g,k * 3,none⟩=some (.int .i64 u.ix)∧ w2.cell? ⟨g,k * 3+1,none⟩=some (.int .i64 u.sub)∧ w2.cell? ⟨g,k * 3+2,none⟩=some (.slice d1 ul d2))∧ Below wr.heap.size wr w2:=⟨⟨(hb2.cell (zal pc0)).trans pc0,(hb2.cell (zal pc1)).trans pc1,(hb2.cell (zal pc2)).trans pc2⟩,⟨(hb2.cell (zal c0)).trans c0,(hb2.cell (zal c1)).trans c1,(hb2.cell (zal c2)).trans c2⟩,hb2⟩
        try dsimp only
        refine hK.out _ _ ?hS47 (fun hHeld=>?rest47)
        case hS47=>((try dsimp only);(exact k2))
        case' rest47=>(clear hK K;try simp only[PqL,Act.put])
        clear hb hb2
        refine tkH 11 ?_
        try simp only[PqL,Act.put]
        refine wpAnyH_done (by kernel_rfl) ?_ _
        have hEnd:=hHeld.2
        repeat (clear hHeld)
        obtain⟨⟨e0,e1,e2⟩,⟨f0,f1,f2⟩,_⟩:= k2
        clear hEnd pc0 pc1 pc2 c0 c1 c2
        go_wp2_with fail
        refine wp_region_held_drew (S:=(fun w'=>(w'.cell? ⟨P,0,none⟩=some (.int .i64 v.ix)∧ w'.cell? ⟨P,1,none⟩=some (.int .i64 v.sub)∧ w'.cell? ⟨P,2,none⟩=some (.slice Av vl cv))∧ (w'.cell? ⟨g,k * 3,none⟩=some (.int .i64 u.ix)∧ w'.cell? ⟨g,k * 3+1,none⟩=some (.int .i64 u.sub)∧ w'.cell? ⟨g,k * 3+2,none⟩=some (.slice d1 ul d2))∧ Below w2.heap.size w2 w')) (by kernel_rfl) ?hS50 (fun hHeld=>?rest50)
        case hS50=>((try dsimp only);(exact⟨⟨e0,e1,e2⟩,⟨f0,f1,f2⟩,zb9 (Below.refl _ _)⟩))
        case' rest50=>skip
        iterate 10 (refine tkN ?_;try simp only[PqL,Act.put])
        refine wpAnyH_ready (rs:= [10]) (by kernel_rfl) (by simp) ?_
        refine AllReadyH.cons (o:=_) rfl (fun K hK=>?_) .nil
        go_simp
        refine (znm _ _ _ _ _ _ _).mono ?_
        rintro e w3 ⟨rfl,hb⟩
        rw[hah2.out]
        have hb3:=zbd hb (zb9 (Below.refl w2.heap.size w2))
        have HB3:=zak (zbd hb3 HB2.out)
        have HP3:=zak (HP2.out.below hb3 HP2.out.lt)
        have k3:(w3.cell? ⟨P,0,none⟩=some (.int .i64 v.ix)∧ w3.cell? ⟨P,1,none⟩=some (.int .i64 v.sub)∧ w3.cell? ⟨P,2,none⟩=some (.slice Av vl cv))∧ (w3.cell? ⟨g,k * 3,none⟩=some (.int .i64 u.ix)∧ w3.cell? ⟨g,k * 3+1,none⟩=some (.int .i64 u.sub)∧ w3.cell? ⟨g,k * 3+2,none⟩=some (.slice d1 ul d2))∧ Below w2.heap.size w2 w3:=⟨⟨(hb3.cell (zal e0)).trans e0,(hb3.cell (zal e1)).trans e1,(hb3.cell (zal e2)).trans e2⟩,⟨(hb3.cell (zal f0)).trans f0,(hb3.cell (zal f1)).trans f1,(hb3.cell (zal f2)).trans f2⟩,hb3⟩
        try dsimp only
        refine hK.out _ _ ?hS63 (fun hHeld=>?rest63)
        case hS63=>((try dsimp only);(exact k3))
        case' rest63=>(clear hK K;try simp only[PqL,Act.put])
        clear hb hb3
        refine tkH 11 ?_
        try simp only[PqL,Act.put]
        refine tkH 12 ?_
        try simp only[PqL,Act.put]
        refine wpAnyH_done (by kernel_rfl) ?_ _
        have hEnd:=hHeld.2
        repeat (clear hHeld)
        obtain⟨⟨e0',e1',e2'⟩,⟨f0',f1',f2'⟩,_⟩:= k3
        clear hEnd e0 e1 e2 f0 f1 f2
        have OA:=zak ((HO.out.own.below HB3.out).alloc (.cells #[.int .i64 0,.int .i64 0,.slice none 0 0] 52))
        have hba:=zbf (Below.refl w3.heap.size w3) (.cells #[.int .i64 0,.int .i64 0,.slice none 0 0] 52)
        have HBA:=zak (zbd hba HB3.out)
        have HPA:=zak (HP3.out.below hba HP3.out.lt)
        have hbz:B≤(w3.alloc (.cells #[.int .i64 0,.int .i64 0,.slice none 0 0] 52)).heap.size:=Nat.le_trans HB.out (Nat.le_trans HB3.out.size hba.size)
        have HBZ:=zak hbz
        obtain⟨N,hN⟩:∃ N,n+1=N:=⟨_,rfl⟩
        have HN:=zak hN
        obtain⟨VA,hVA⟩:∃ VA,VA=w3.alloc (.cells #[.int .i64 0,.int .i64 0,.slice none 0 0] 52):= ⟨_,rfl⟩
        rw[← hVA] at OA HBA HPA HBZ
        have HVA:=zak hVA
        clear hba hbz hN hVA
        go_wp2_with (at_builtin;rw[← HVA.out];refine zu5 _ rfl _ _ rfl B (some ⟨g,0,none⟩) n c _ rfl OA.out _ 1 1 zcel rfl rfl (by rw[HVA.out];exact (Blk.new _ _ _).sl) (by intro u hu;simp[zcel] at hu;rcases hu with rfl | rfl<;>rfl) (by omega) HBZ.out N HN.out ?_;intro A5 c5 w5 hown5 hg5 hr5 hb5)
        obtain⟨g5,hA5,hg5B,hg5w⟩:= hown5.at_ (by have:=HN.out;omega)
        subst hA5
        have HP5:Hid (Blk w5 P 52 #[.int .i64 v.ix,.int .i64 v.sub,.slice Av vl cv]∧ P≠g5):= zak ⟨(hg5.block P HPA.out.lt (by rw[HP.out];exact zvo HO.out.own)).trans HPA.out,by
         intro e
         rcases hr5 with h | h
         · have h2:=zvo HO.out.own
           rw[← h] at h2
           exact h2 (by rw[← HP.out,e];rfl)
         · injection h with h
           injection h with h
           have:=HPA.out.lt
           omega⟩
        have HO5:=zak hown5
        have HG5:=zak hg5
        have HB5:=zak hb5
        have hkn:k+1≤N:=by have:=HN.out;omega
        have hcN:N≤c5:=hown5.le
        have hN1:N≤1001:=by have:=HN.out;omega
        clear hown5 hg5 hr5 hb5 hg5B hg5w
        go_wp2_with fail
        refine wp_region_held_drew (S:=(fun _=>True∧True)) (by kernel_rfl) ?hS67 (fun hHeld=>?rest67)
        case hS67=>((try dsimp only);(exact⟨trivial,trivial⟩))
        case' rest67=>skip
        iterate 2 (refine tkN ?_;try simp only[PqL,Act.put])
        refine tkH 4 ?_
        try simp only[PqL,Act.put]
        refine tkH 5 ?_
        try simp only[PqL,Act.put]
        have s0:IntKind.i64.wrap ((k:Int)+1)=(k:Int)+1:=IntWalk.i64_in _ (by omega)
        have s1:(0:Int)≤ (k:Int)+1:=by omega
        have s2:(k:Int)+1≤(N:Int):= by omega
        have s3:((k:Int)+1).toNat=k+1:=by omega
        have s4:(0:Int)≤ (k:Int):= by omega
        have s5:(k:Int)≤ (N:Int):= by omega
        have s6:(N:Int)≤ (c5:Int):= by omega
        have s7:(k:Int).toNat=k:=by omega
        have s8: ¬ c5=k:=by omega
        refine tkH 2 ?_
        try simp only[PqL,Act.put]
        refine tkH 6 ?_
        try simp only[PqL,Act.put]
        refine tkH 3 ?_
        try simp only[PqL,Act.put]
        obtain⟨dp,hdp⟩:∃ dp:Option Addr,dp=(if c5=k+1 then some ⟨g5,0,none⟩ else some ⟨g5,(k+1) * 3,none⟩):= ⟨_,rfl⟩
        rw[← hdp]
        have HDP:=zak hdp
        clear hdp
        refine wpAnyH_ready (rs:= [7]) (by kernel_rfl) (by simp) ?_
        refine AllReadyH.cons (o:=_) rfl (fun K hK=>?_) .nil
        rw[if_pos (show Region.wanted _ _=true by kernel_rfl)]
        have hkL:k≤L.length:=by rw[← HO.out.hn];exact hk
        have hcl:(cellsV (L.drop k) (ds.drop k)).length=(n - k) * 3:=by rw[zuy _ _ (by simp[HO.out.hd]),List.length_drop,HO.out.hn]
        have hmin:Nat.min (N - k) (N - (k+1))=n - k:=by rw[show Nat.min (N - k) (N - (k+1))=N - (k+1) from Nat.min_eq_right (by omega)];have:=HN.out;omega
        refine zuu _ _ rfl B g5 N c5 _ HO5.out.drew _ _ (N - (k+1)) (c5 - (k+1)) (N - k) (c5 - k) (by rfl) (by rfl) ((k+1) * 3) (cellsV (L.drop k) (ds.drop k)) (by rw[hcl,hmin]) ?_ ?_ (zu0 _ _) ?_
        · intro hpos
          have hkn2:k < n:=by rw[hcl] at hpos;omega
          have hne: ¬ c5=k+1:=by have:=HN.out;omega
          exact⟨by rw[HDP.out,if_neg hne],⟨g5,k * 3,none⟩,rfl,zvn HO.out.hd HO5.out.drew⟩
        · rw[hcl,List.length_append,zuy _ _ HO.out.hd,← HO.out.hn,show zcel.length=3 from rfl]
          omega
        intro w6 hO6 hg6
        rw[zvj L ds HO.out.hd k hkL] at hO6
        refine hK.out _ _ ?hS77 (fun hHeld=>?rest77)
        case hS77=>((try dsimp only);(exact⟨trivial,trivial⟩))
        case' rest77=>(clear hK K;try simp only[PqL,Act.put])
        have HO6:=zak hO6
        have HG6:=zak (show w5.grownBy w6 (some g5) from ⟨hg6.os,hg6.tape,hg6.output,hg6.size,hg6.block⟩)
        have HP6:=zak (show Blk w6 P 52 #[.int .i64 v.ix,.int .i64 v.sub,.slice Av vl cv] from (hg6.block P HP5.out.1.lt (fun e=>HP5.out.2 (by injection e))).trans HP5.out.1)
        refine wpAnyH_done (by kernel_rfl) ?_ _
        have hEnd:=hHeld.2
        repeat (clear hHeld)
        have pp0:=HP6.out.cell 0 (u:= .int .i64 v.ix) rfl
        have pp1:=HP6.out.cell 1 (u:= .int .i64 v.sub) rfl
        have pp2:=HP6.out.cell 2 (u:= .slice Av vl cv) rfl
        have hgB:B≤g5:=by
         obtain⟨g9,h9,h10,_⟩:= HO6.out.at_ (by omega)
         injection h9 with h9
         injection h9 with h9
         omega
        have HB6:Hid (Below B w w6):= zak (((zvc HBA.out HB.out).trans HB5.out).trans ((Below.refl _ _).grown HG6.out (Nat.le_trans HBZ.out HG5.out.size) (fun i hi=>by injection hi with hi;omega)))
        have H56:=zak (Nat.le_trans HBA.out.size (Nat.le_trans HG5.out.size HG6.out.size))
        have hkd:k≤ds.length:=by rw[HO.out.hd];exact hkL
        obtain⟨xk,hxk⟩:∃ x,(shL L k)[k]? =some x:=⟨(shL L k)[k]'(by rw[zvk _ _ hkL];omega),List.getElem?_eq_getElem _⟩
        obtain⟨yk,hyk⟩:∃ x,(shD ds k)[k]? =some x:=⟨(shD ds k)[k]'(by rw[zvl _ _ hkd];omega),List.getElem?_eq_getElem _⟩
        have HXY:=zak (And.intro hxk hyk)
        have hkN:k < N:=by omega
        obtain⟨i1,i2,i3⟩:= zbr hkN
        clear hO6 hg6 hkL hcl hmin hkd hxk hyk hEnd s0 s1 s2 s3 s4 s5 s6 s7 s8
        go_wp2_with fail
        refine (znn _ _ _ _ _ v.data w6 HVL.out (by have:=HF.out;omega) (HS.out _ HB6.out)).mono ?_
        rintro e w7 ⟨A4,c4,rfl,hO4,hb7⟩
        have HO4:=zak hO4
        have HB7:=zak hb7
        obtain⟨g0,g1,g2⟩:= zu6 (HO6.out.below hb7) HXY.out.1 HXY.out.2
        have fz:=zu7 (HO6.out.below hb7)
        clear hO4 hb7 pp0 pp1 pp2
        go_wp2_with fail
        rw[HR.out]
        have hz:=HVL.out
        subst hz
        have hfin:=zvm HO.out HB.out hk HN.out HJ.out (fun x hx=>by rw[HU.out.1] at hx;injection hx with hx;rw[← hx];exact⟨H1.out,H2.out⟩) HBA.out HO5.out HG5.out HO6.out HG6.out HB7.out H56.out HO4.out
        exact⟨_,_,_,_,rfl,hfin.1,hfin.2⟩
    · have H1:=zak h1
      rw[h1] at hah
      clear h1
      go_wp2_with fail
      refine wp_region_held_drew (S:=(fun w'=>(w'.cell? ⟨P,0,none⟩=some (.int .i64 v.ix)∧ w'.cell? ⟨P,1,none⟩=some (.int .i64 v.sub)∧ w'.cell? ⟨P,2,none⟩=some (.slice Av vl cv))∧ (w'.cell? ⟨g,k * 3,none⟩=some (.int .i64 u.ix)∧ w'.cell? ⟨g,k * 3+1,none⟩=some (.int .i64 u.sub)∧ w'.cell? ⟨g,k * 3+2,none⟩=some (.slice d1 ul d2))∧ Below wr.heap.size wr w')) (by kernel_rfl) ?hS79 (fun hHeld=>?rest79)
      case hS79=>((try dsimp only);(exact⟨⟨pc0,pc1,pc2⟩,⟨c0,c1,c2⟩,zb9 (Below.refl _ _)⟩))
      case' rest79=>skip
      iterate 10 (refine tkN ?_;try simp only[PqL,Act.put])
      refine wpAnyH_ready (rs:= [10]) (by kernel_rfl) (by simp) ?_
      refine AllReadyH.cons (o:=_) rfl (fun K hK=>?_) .nil
      go_simp
      refine (znm _ _ _ _ _ _ _).mono ?_
      rintro e w2 ⟨rfl,hb⟩
      rw[hah.out]
      have hb2:=zbd hb (zb9 (Below.refl wr.heap.size wr))
      have HB2:=zak (zbd hb2 HBr.out)
      have HP2:=zak (HPr.out.below hb2 HPr.out.lt)
      have k2:(w2.cell? ⟨P,0,none⟩=some (.int .i64 v.ix)∧ w2.cell? ⟨P,1,none⟩=some (.int .i64 v.sub)∧ w2.cell? ⟨P,2,none⟩=some (.slice Av vl cv))∧ (w2.cell? ⟨g,k * 3,none⟩=some (.int .i64 u.ix)∧ w2.cell? ⟨g,k * 3+1,none⟩=some (.int .i64 u.sub)∧ w2.cell? ⟨g,k * 3+2,none⟩=some (.slice d1 ul d2))∧ Below wr.heap.size wr w2:=⟨⟨(hb2.cell (zal pc0)).trans pc0,(hb2.cell (zal pc1)).trans pc1,(hb2.cell (zal pc2)).trans pc2⟩,⟨(hb2.cell (zal c0)).trans c0,(hb2.cell (zal c1)).trans c1,(hb2.cell (zal c2)).trans c2⟩,hb2⟩
      try dsimp only
      refine hK.out _ _ ?hS92 (fun hHeld=>?rest92)
      case hS92=>((try dsimp only);(exact k2))
      case' rest92=>(clear hK K;try simp only[PqL,Act.put])
      clear hb hb2
      refine tkH 11 ?_
      try simp only[PqL,Act.put]
      refine wpAnyH_done (by kernel_rfl) ?_ _
      have hEnd:=hHeld.2
      repeat (clear hHeld)
      obtain⟨⟨e0,e1,e2⟩,⟨f0,f1,f2⟩,_⟩:= k2
      clear hEnd pc0 pc1 pc2 c0 c1 c2
      go_wp2_with fail
      go_roundw
      case rel=>
       refine⟨k+1,by omega,by go_num,zak ?_,HB2,HP2⟩
       intro j x hj hx
       rcases Nat.decEq j k with hjk | hjk
       · exact HJ.out j x (by omega) hx
       · subst hjk
         rw[HU.out.1] at hx
         injection hx with hx
         rw[← hx]
         exact H1.out
      case measure=>simp[intOf];omega
  · have HKN:=zak (show k=n by omega)
    have hnl: ¬ ((k:Int) < (n:Int)):= by omega
    have hnl2:decide ((k:Int) < (n:Int))=false:=by simp;omega
    have HBd:=zak (zb9 (zb9 HBr.out))
    have HPd:=zak (show Blk wr.drew.drew P 52 #[.int .i64 v.ix,.int .i64 v.sub,.slice Av vl cv] from HPr.out)
    go_wp2_with fail
    refine wp_region_held_drew (S:=(fun _=>True∧True)) (by kernel_rfl) ?hS95 (fun hHeld=>?rest95)
    case hS95=>((try dsimp only);(exact⟨trivial,trivial⟩))
    case' rest95=>skip
    iterate 5 (refine tkN ?_;try simp only[PqL,Act.put])
    iterate 6 (refine tkV ?_;try simp only[PqL,Act.put])
    refine tkN ?_;try simp only[PqL,Act.put]
    refine wpAnyH_done (by kernel_rfl) ?_ _
    have hEnd:=hHeld.2
    repeat (clear hHeld)
    go_wp2_with fail
    refine wp_region_held_drew (S:=(fun _=>True∧True)) (by kernel_rfl) ?hS109 (fun hHeld=>?rest109)
    case hS109=>((try dsimp only);(exact⟨trivial,trivial⟩))
    case' rest109=>skip
    iterate 5 (refine tkN ?_;try simp only[PqL,Act.put])
    iterate 7 (refine tkV ?_;try simp only[PqL,Act.put])
    refine tkN ?_;try simp only[PqL,Act.put]
    refine wpAnyH_done (by kernel_rfl) ?_ _
    have hEnd:=hHeld.2
    repeat (clear hHeld)
    obtain⟨W3,hW3⟩:∃ W,W=wr.drew.drew:=⟨_,rfl⟩
    rw[← hW3] at HBd HPd ⊢
    clear hnl hnl2 hlt pc0 pc1 pc2 hW3
    have OA:=zak ((HO.out.own.below HBd.out).alloc (.cells #[.int .i64 0,.int .i64 0,.slice none 0 0] 52))
    have hba:=zbf (Below.refl W3.heap.size W3) (.cells #[.int .i64 0,.int .i64 0,.slice none 0 0] 52)
    have HBA:=zak (zbd hba HBd.out)
    have HPA:=zak (HPd.out.below hba HPd.out.lt)
    have hbz:B≤(W3.alloc (.cells #[.int .i64 0,.int .i64 0,.slice none 0 0] 52)).heap.size:=Nat.le_trans HB.out (Nat.le_trans HBd.out.size hba.size)
    have HBZ:=zak hbz
    obtain⟨N,hN⟩:∃ N,n+1=N:=⟨_,rfl⟩
    have HN:=zak hN
    obtain⟨VA,hVA⟩:∃ VA,VA=W3.alloc (.cells #[.int .i64 0,.int .i64 0,.slice none 0 0] 52):= ⟨_,rfl⟩
    rw[← hVA] at OA HBA HPA HBZ
    have HVA:=zak hVA
    clear hba hbz hN hVA
    go_wp2_with (at_builtin;rw[← HVA.out];refine zu5 _ rfl _ _ rfl B A n c _ rfl OA.out _ 1 1 zcel rfl rfl (by rw[HVA.out];exact (Blk.new _ _ _).sl) (by intro u hu;simp[zcel] at hu;rcases hu with rfl | rfl<;>rfl) (by omega) HBZ.out N HN.out ?_;intro A5 c5 w5 hown5 hg5 hr5 hb5)
    obtain⟨g5,hA5,hg5B,hg5w⟩:= hown5.at_ (by have:=HN.out;omega)
    subst hA5
    have HP5:Hid (Blk w5 P 52 #[.int .i64 v.ix,.int .i64 v.sub,.slice Av vl cv]∧ P≠g5):= zak ⟨(hg5.block P HPA.out.lt (by rw[HP.out];exact zvo HO.out.own)).trans HPA.out,by
     intro e
     rcases hr5 with h | h
     · have h2:=zvo HO.out.own
       rw[← h] at h2
       exact h2 (by rw[← HP.out,e];rfl)
     · injection h with h
       injection h with h
       have:=HPA.out.lt
       omega⟩
    have HO5:=zak hown5
    have HG5:=zak hg5
    have HB5:=zak hb5
    have hkn:k+1≤N:=by have:=HN.out;omega
    have hcN:N≤c5:=hown5.le
    have hN1:N≤1001:=by have:=HN.out;omega
    clear hown5 hg5 hr5 hb5 hg5B hg5w
    go_wp2_with fail
    refine wp_region_held_drew (S:=(fun _=>True∧True)) (by kernel_rfl) ?hS124 (fun hHeld=>?rest124)
    case hS124=>((try dsimp only);(exact⟨trivial,trivial⟩))
    case' rest124=>skip
    iterate 2 (refine tkN ?_;try simp only[PqL,Act.put])
    refine tkH 4 ?_
    try simp only[PqL,Act.put]
    refine tkH 5 ?_
    try simp only[PqL,Act.put]
    have s0:IntKind.i64.wrap ((k:Int)+1)=(k:Int)+1:=IntWalk.i64_in _ (by omega)
    have s1:(0:Int)≤ (k:Int)+1:=by omega
    have s2:(k:Int)+1≤(N:Int):= by omega
    have s3:((k:Int)+1).toNat=k+1:=by omega
    have s4:(0:Int)≤ (k:Int):= by omega
    have s5:(k:Int)≤ (N:Int):= by omega
    have s6:(N:Int)≤ (c5:Int):= by omega
    have s7:(k:Int).toNat=k:=by omega
    have s8: ¬ c5=k:=by omega
    refine tkH 2 ?_
    try simp only[PqL,Act.put]
    refine tkH 6 ?_
    try simp only[PqL,Act.put]
    refine tkH 3 ?_
    try simp only[PqL,Act.put]
    obtain⟨dp,hdp⟩:∃ dp:Option Addr,dp=(if c5=k+1 then some ⟨g5,0,none⟩ else some ⟨g5,(k+1) * 3,none⟩):= ⟨_,rfl⟩
    rw[← hdp]
    have HDP:=zak hdp
    clear hdp
    refine wpAnyH_ready (rs:= [7]) (by kernel_rfl) (by simp) ?_
    refine AllReadyH.cons (o:=_) rfl (fun K hK=>?_) .nil
    rw[if_pos (show Region.wanted _ _=true by kernel_rfl)]
    have hkL:k≤L.length:=by rw[← HO.out.hn];exact hk
    have hcl:(cellsV (L.drop k) (ds.drop k)).length=(n - k) * 3:=by rw[zuy _ _ (by simp[HO.out.hd]),List.length_drop,HO.out.hn]
    have hmin:Nat.min (N - k) (N - (k+1))=n - k:=by rw[show Nat.min (N - k) (N - (k+1))=N - (k+1) from Nat.min_eq_right (by omega)];have:=HN.out;omega
    refine zuu _ _ rfl B g5 N c5 _ HO5.out.drew _ _ (N - (k+1)) (c5 - (k+1)) (N - k) (c5 - k) (by rfl) (by rfl) ((k+1) * 3) (cellsV (L.drop k) (ds.drop k)) (by rw[hcl,hmin]) ?_ ?_ (zu0 _ _) ?_
    · intro hpos
      have hkn2:k < n:=by rw[hcl] at hpos;omega
      have hne: ¬ c5=k+1:=by have:=HN.out;omega
      exact⟨by rw[HDP.out,if_neg hne],⟨g5,k * 3,none⟩,rfl,zvn HO.out.hd HO5.out.drew⟩
    · rw[hcl,List.length_append,zuy _ _ HO.out.hd,← HO.out.hn,show zcel.length=3 from rfl]
      omega
    intro w6 hO6 hg6
    rw[zvj L ds HO.out.hd k hkL] at hO6
    refine hK.out _ _ ?hS134 (fun hHeld=>?rest134)
    case hS134=>((try dsimp only);(exact⟨trivial,trivial⟩))
    case' rest134=>(clear hK K;try simp only[PqL,Act.put])
    have HO6:=zak hO6
    have HG6:=zak (show w5.grownBy w6 (some g5) from ⟨hg6.os,hg6.tape,hg6.output,hg6.size,hg6.block⟩)
    have HP6:=zak (show Blk w6 P 52 #[.int .i64 v.ix,.int .i64 v.sub,.slice Av vl cv] from (hg6.block P HP5.out.1.lt (fun e=>HP5.out.2 (by injection e))).trans HP5.out.1)
    refine wpAnyH_done (by kernel_rfl) ?_ _
    have hEnd:=hHeld.2
    repeat (clear hHeld)
    have pp0:=HP6.out.cell 0 (u:= .int .i64 v.ix) rfl
    have pp1:=HP6.out.cell 1 (u:= .int .i64 v.sub) rfl
    have pp2:=HP6.out.cell 2 (u:= .slice Av vl cv) rfl
    have hgB:B≤g5:=by
     obtain⟨g9,h9,h10,_⟩:= HO6.out.at_ (by omega)
     injection h9 with h9
     injection h9 with h9
     omega
    have HB6:Hid (Below B w w6):= zak (((zvc HBA.out HB.out).trans HB5.out).trans ((Below.refl _ _).grown HG6.out (Nat.le_trans HBZ.out HG5.out.size) (fun i hi=>by injection hi with hi;omega)))
    have H56:=zak (Nat.le_trans HBA.out.size (Nat.le_trans HG5.out.size HG6.out.size))
    have hkd:k≤ds.length:=by rw[HO.out.hd];exact hkL
    obtain⟨xk,hxk⟩:∃ x,(shL L k)[k]? =some x:=⟨(shL L k)[k]'(by rw[zvk _ _ hkL];omega),List.getElem?_eq_getElem _⟩
    obtain⟨yk,hyk⟩:∃ x,(shD ds k)[k]? =some x:=⟨(shD ds k)[k]'(by rw[zvl _ _ hkd];omega),List.getElem?_eq_getElem _⟩
    have HXY:=zak (And.intro hxk hyk)
    have hkN:k < N:=by omega
    obtain⟨i1,i2,i3⟩:= zbr hkN
    clear hO6 hg6 hkL hcl hmin hkd hxk hyk hEnd s0 s1 s2 s3 s4 s5 s6 s7 s8
    go_wp2_with fail
    refine (znn _ _ _ _ _ v.data w6 HVL.out (by have:=HF.out;omega) (HS.out _ HB6.out)).mono ?_
    rintro e w7 ⟨A4,c4,rfl,hO4,hb7⟩
    have HO4:=zak hO4
    have HB7:=zak hb7
    obtain⟨g0,g1,g2⟩:= zu6 (HO6.out.below hb7) HXY.out.1 HXY.out.2
    have fz:=zu7 (HO6.out.below hb7)
    clear hO4 hb7 pp0 pp1 pp2
    go_wp2_with fail
    rw[HR.out]
    have hz:=HVL.out
    subst hz
    have hfin:=zvm HO.out HB.out hk HN.out HJ.out (fun x hx=>by have h1:=(List.getElem?_eq_some_iff.1 hx).1;have h2:=HO.out.hn;have h3:=HKN.out;omega) HBA.out HO5.out HG5.out HO6.out HG6.out HB7.out H56.out HO4.out
    exact⟨_,_,_,_,rfl,hfin.1,hfin.2⟩
end
end Go.Proofs.YtehabbnohoomjaaGreatDoor
