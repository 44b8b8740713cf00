/- None -/
import Derived.Test.YthdbckbpldlkeaaGreatS43
import Derived.Test.YthdbckbpldlkeaaGreatS44
namespace Go.Proofs.YthdbckbpldlkeaaGreat
set_option linter.unusedVariables false
set_option linter.unusedSimpArgs false
set_option linter.unnecessarySimpa false
section
open Go.RowKit Go.Maps
set_option maxRecDepth 100000
set_option maxHeartbeats 8000000
theorem zpz {L:List Ent} {V:List (List UInt8)} (h:ValsP L V) (hl:V.length=L.length):∀ v ∈ V,v.length≤256:=by
 intro v hv
 obtain⟨j,hj,rfl⟩:= List.getElem_of_mem hv
 exact zpp (h j _ _ (List.getElem?_eq_getElem (by omega)) (List.getElem?_eq_getElem hj))
def DBx (W:World) (F:Nat→Prop) (pd:Nat) (L:List Ent) (V:List (List UInt8)):Prop:=
 ∃ gl n cl Av cv ds es,n=L.length∧DB 107 W F pd (some ⟨gl,0,none⟩) n cl Av cv L V ds es
structure SKM (N p ps pb pd:Nat) (L:List Ent) (F G:Nat→Prop) (V:List (List UInt8)) (X:SdoS) (W:World):Prop where
 db:DBx W F pd L V
 dv:DV W G p ps pb pd X
 nF: ¬ F p∧ ¬ F ps∧ ¬ F pb
 lo:N≤p∧N≤ps∧N≤pb
 lF:∀ g,F g→N≤g∧g < W.heap.size
 lG:∀ g,G g→g < W.heap.size∧ ¬ F g
 so:SortedE L
 ll:L.length≤1000
 vp:ValsP L V
 vl:V.length=L.length
 wf:SdWf X
 nn:X.nin≠0
section
variable {N p ps pb pd:Nat} {L:List Ent} {F G:Nat→Prop} {V:List (List UInt8)} {X:SdoS} {W W':World}
theorem DBx.keep (h:DBx W F pd L V) (hk:∀ g,F g→g < W.heap.size→W'.heap[g]? =W.heap[g]?):DBx W' F pd L V:=by
 obtain⟨gl,n,cl,Av,cv,ds,es,hn,hD⟩:= h
 exact⟨gl,n,cl,Av,cv,ds,es,hn,hD.keep hk⟩
theorem SKM.hv (h:SKM N p ps pb pd L F G V X W):∀ v ∈ V,v.length≤256:=zpz h.vp h.vl
theorem SKM.step (h:SKM N p ps pb pd L F G V X W) (hb:Below W.heap.size W W'):SKM N p ps pb pd L F G V X W':=
 { h with
  db:=h.db.keep (fun g _ hl=>hb.block g hl)
  dv:=h.dv.low hb
  lF:=fun g hg=>⟨(h.lF g hg).1,Nat.lt_of_lt_of_le (h.lF g hg).2 hb.size⟩
  lG:=fun g hg=>⟨Nat.lt_of_lt_of_le (h.lG g hg).1 hb.size,(h.lG g hg).2⟩ }
theorem SKM.call {G':Nat→Prop} {X':SdoS} (h:SKM N p ps pb pd L F G V X W) (ho:zdv (fun q=>q=p∨q=ps∨q=pb) W W') (hd:DV W' G' p ps pb pd X') (hG:∀ q,G' q→(G q∨W.heap.size≤q)∧ q < W'.heap.size) (hw:SdWf X') (hn:X'.nin≠0):SKM N p ps pb pd L F G' V X' W':=
 { h with
  db:=h.db.keep (fun g hg hl=>ho.block g hl (by
   rintro (rfl | rfl | rfl)
   · exact h.nF.1 hg
   · exact h.nF.2.1 hg
   · exact h.nF.2.2 hg))
  dv:=hd
  lF:=fun g hg=>⟨(h.lF g hg).1,Nat.lt_of_lt_of_le (h.lF g hg).2 ho.size⟩
  lG:=fun g hg=>⟨(hG g hg).2,fun hf=>by
   rcases (hG g hg).1 with h1 | h1
   · exact (h.lG g h1).2 hf
   · have:=(h.lF g hf).2;omega⟩
  wf:=hw
  nn:=hn }
def RecvK (N p ps pb pd:Nat) (L:List Ent) (F:Nat→Prop) (V:List (List UInt8)) (X':SdoS) (id:Int) (O:SegO) (W:World) (e:Ending) (W':World):Prop:=
 ∃ N1 Y As ns cs ds A n c G',e= .returned (.tuple #[.slice As ns cs,.agg #[.int .i64 O.ix,.int .i64 O.sub,.slice A n c],.bool O.wr])∧ W.heap.size≤N1∧zgg W' (fun g=>N1≤g) As ns cs (frmL id O.ms) ds∧zdq W' W.heap.size A n c O.b∧FIn Y A∧(∀ q,Y q→W.heap.size≤q∧q < N1)∧ SKM N p ps pb pd L F G' V X' W'∧(∀ q,G' q→ ¬ Y q∧q < N1)∧ zdv (fun g=>g=p∨g=ps∨g=pb) W W'
theorem zp0 (L:List Ent) (V:List (List UInt8)) (X:SdoS) (f:Frm):(sdRS L V X f).nin=X.nin∧(sdRS L V X f).nout=X.nout:=by
 unfold sdRS
 split
 · split
   · exact⟨(zoo { X with left:=50 }).1,(zoo { X with left:=50 }).2.1⟩
   · exact zo9 L V { X with left:=50 } _
 · exact⟨rfl,rfl⟩
theorem zqa (h:SKM N p ps pb pd L F G V X W) (f:Frm) (A:Option Addr) (m c:Nat) (hm:m=f.data.length) (hc:m≤c) (hA:∀ W',zdv (fun q=>q=p∨q=ps∨q=pb) W W'→Sl W' A (f.data.map bv)) :
 Calls Tryz.prog 25 #[.pointer (some ⟨p,0,none⟩),.agg #[.int .i64 f.id,.bool f.re,.slice A m c]] W (RecvK N p ps pb pd L F V (sdRS L V X f) X.nout (sdRO L V X f) W):= by
 cases hr:sdReq X f
 · refine (zox h.dv h.nn f A m c hm hr).mono ?_
   rintro e W' ⟨rfl,hb⟩
   have hS:sdRS L V X f=X:=by unfold sdRS;rw[if_neg (by rw[hr];decide)]
   have hO:sdRO L V X f=outZ:=by unfold sdRO;rw[if_neg (by rw[hr];decide)]
   rw[hS,hO]
   exact⟨W'.heap.size,fun _=>False,none,0,0,[],none,0,0,G,rfl,hb.size,zgg.nil _ _,zdq.nil _ _,FIn.nil _,fun _ h=>h.elim,h.step hb,fun q hq=>⟨id,((h.step hb).lG q hq).1⟩,zdv.of_below hb⟩
 · obtain⟨gl,n,cl,Av,cv,ds,es,hn,hD⟩:= h.db
   refine (zpd h.dv h.wf h.nn hD h.so (by rw[hn];exact h.ll) h.hv h.nF f A m c hm hc hA hr).mono ?_
   rintro e W' ⟨N1,Y,As,ns,cs,ds',A',n',c',rfl,h1,h2,h3,h4,h5,h6,h7⟩
   have hz:=h7.size
   have hlt:∀ q,(((G q∨W.heap.size≤q)∧ ¬ Y q)∧ q < N1)∧ q < W'.heap.size→(G q∨W.heap.size≤q)∧ q < W'.heap.size:=fun q hq=>⟨hq.1.1.1,hq.2⟩
   refine⟨N1,Y,As,ns,cs,ds',A',n',c',_,rfl,h1,h2,h3,h4,h5,h.call h7 (h6.mono (H:=fun q=>(((G q∨W.heap.size≤q)∧ ¬ Y q)∧ q < N1)∧ q < W'.heap.size) (fun q hq hG=>⟨hG,hq⟩) ⟨fun hg=>h6.ng.1 hg.1,fun hg=>h6.ng.2.1 hg.1,fun hg=>h6.ng.2.2 hg.1⟩) hlt (znw h.hv h.wf) (by rw[(zp0 L V X f).1];exact h.nn),fun q hq=>⟨hq.1.1.2,hq.1.2⟩,h7⟩
theorem zqb (h:SKM N p ps pb pd L F G V X W) (f:Frm) (A:Option Addr) (m c:Nat) (hm:m=f.data.length) (hc:m≤c) (hA:Sl W A (f.data.map bv)) (hab:∀ ad,A=some ad→ad.block < W.heap.size∧ad.block≠p∧ad.block≠ps∧ad.block≠pb) :
 Calls Tryz.prog 25 #[.pointer (some ⟨p,0,none⟩),.agg #[.int .i64 f.id,.bool f.re,.slice A m c]] W (RecvK N p ps pb pd L F V (sdRS L V X f) X.nout (sdRO L V X f) W):=
 zqa h f A m c hm hc (fun W' ho=>zj3 hA (fun ad e=>ho.block _ (hab ad e).1 (by
  have:=(hab ad e).2
  rintro (h1 | h1 | h1)
  · exact this.1 h1
  · exact this.2.1 h1
  · exact this.2.2 h1)))
def GiveK (N p ps pb pd:Nat) (L:List Ent) (F G:Nat→Prop) (V:List (List UInt8)) (X':SdoS) (id:Int) (l:List Ms) (W:World) (e:Ending) (W':World):Prop:=
 ∃ N1 As ns cs ds,e= .returned (.slice As ns cs)∧ W.heap.size≤N1∧zgg W' (fun g=>N1≤g) As ns cs (frmL id l) ds∧SKM N p ps pb pd L F G V X' W'∧zdv (fun g=>g=p∨g=ps∨g=pb) W W'
theorem zqc (X:SdoS):(sdTS X).nin=X.nin∧(sdTS X).nout=X.nout:=by
 unfold sdTS
 split
 · split
   · exact⟨rfl,rfl⟩
   · exact⟨(zoo { X with left:=X.left - 1 }).1,(zoo { X with left:=X.left - 1 }).2.1⟩
 · exact⟨rfl,rfl⟩
theorem zqd (h:SKM N p ps pb pd L F G V X W) (code:Nat) (hc:code≤4294967295) :
 Calls Tryz.prog 27 #[.pointer (some ⟨p,0,none⟩),.int .u32 (code:Nat)] W (GiveK N p ps pb pd L F G V (sdAS X) X.nout (sdAL X code) W):= by
 refine (zpn h.dv code hc).mono ?_
 rintro e W' ⟨N1,As,ns,cs,ds,rfl,h1,h2,h3,h4⟩
 have ho:zdv (fun g=>g=p∨g=ps∨g=pb) W W':=h4.mono (fun q _ h=> .inr h)
 exact⟨N1,As,ns,cs,ds,rfl,h1,h2,h.call ho h3 (fun q hq=>⟨.inl hq,Nat.lt_of_lt_of_le (h.lG q hq).1 h4.size⟩) (zny h.wf) h.nn,ho⟩
theorem zqe (h:SKM N p ps pb pd L F G V X W) (hl: -1000000≤X.left∧X.left≤1000) :
 Calls Tryz.prog 30 #[.pointer (some ⟨p,0,none⟩)] W (GiveK N p ps pb pd L F G V (sdTS X) X.nout (sdTL X) W):= by
 refine (zoq h.dv hl).mono ?_
 rintro e W' ⟨N1,As,ns,cs,ds,rfl,h1,h2,h3,h4⟩
 exact⟨N1,As,ns,cs,ds,rfl,h1,h2,h.call h4 h3 (fun q hq=>⟨.inl hq,Nat.lt_of_lt_of_le (h.lG q hq).1 h4.size⟩) (znx h.wf) (by rw[(zqc X).1];exact h.nn),h4⟩
theorem zqf (h:SKM N p ps pb pd L F G V X W):Calls Tryz.prog 28 #[.pointer (some ⟨p,0,none⟩)] W fun e W'=>e= .returned (.bool (sdBusy X))∧ W=W':=zmp h.dv
theorem zqg (h:SKM N p ps pb pd L F G V X W) (ix sub:Int) (A:Option Addr) (m c:Nat) (b:List UInt8) (hm:m=b.length) (hc:m≤c) (hl:m≤35184372088832) (hb:Sl W A (b.map bv)) :
 Calls Tryz.prog 31 #[.pointer (some ⟨pd,0,none⟩),.int .i64 ix,.int .i64 sub,.slice A m c] W fun e W'=>e= .returned (.int .u32 (mayC L ix sub b false))∧ SKM N p ps pb pd L (fun g=>(F g∨W.heap.size≤g)∧ g < W'.heap.size) G (putV L V ix sub b false) X W'∧zdv F W W':=by
 obtain⟨gl,n,cl,Av,cv,ds,es,hn,hD⟩:= h.db
 refine (zir ix sub A m c b W hD h.so (by rw[hn];exact h.ll) hm hc hl hb).mono ?_
 rintro e W' ⟨V',es',rfl,rfl,hD',ho⟩
 have hz:=ho.size
 have hlt:=h.dv.lt
 refine⟨rfl,?_,ho⟩
 have hk:∀ q,¬ F q→q < W.heap.size→W'.heap[q]? =W.heap[q]? :=fun q hq hl=>ho.block q hl hq
 exact { h with
  db:=⟨gl,n,cl,Av,cv,ds,es',hn,hD'.mono (fun g hg h=>⟨h,hg⟩)⟩
  dv:=(h.dv.keep (fun q hq hl=>hk q (by
   rcases hq with rfl | rfl | rfl | hq
   · exact h.nF.1
   · exact h.nF.2.1
   · exact h.nF.2.2
   · exact (h.lG q hq).2) hl) hz).mono (fun q _ hq=>hq.1) h.dv.ng
  nF:=⟨fun hf=>hf.1.elim h.nF.1 (fun hh=>by omega),fun hf=>hf.1.elim h.nF.2.1 (fun hh=>by omega),fun hf=>hf.1.elim h.nF.2.2 (fun hh=>by omega)⟩
  lF:=fun g hg=>⟨by
   rcases hg.1 with h1 | h1
   · exact (h.lF g h1).1
   · have:=h.lo.1;omega,hg.2⟩
  lG:=fun g hg=>⟨Nat.lt_of_lt_of_le (h.lG g hg).1 hz,fun hf=>hf.1.elim (h.lG g hg).2 (fun hh=>by have:=(h.lG g hg).1;omega)⟩
  vp:=zpy h.so h.vl h.vp ix sub b false
  vl:=by rw[← h.vl];exact zb0 L V ix sub b false }
theorem zqh (h:SKM N p ps pb pd L F G V X W):Calls Tryz.prog 20 #[.pointer (some ⟨pd,0,none⟩)] W (ValuesR (svL L V) W):= by
 obtain⟨gl,n,cl,Av,cv,ds,es,hn,hD⟩:= h.db
 exact zpq W hD (by rw[hn];exact h.ll)
theorem zqi {w:World} {gl n cl cv:Nat} {Av:Option Addr} {ds es:List (Option Addr×Nat)} (hn:n=L.length) (hD:DB 107 w (fun g=>N≤g) pd (some ⟨gl,0,none⟩) n cl Av cv L V ds es) (hs:SortedE L) (hl:L.length≤1000) (hvp:ValsP L V) (node:Int) (hnd:1≤node∧node≤127) (hNw:N≤w.heap.size) :
 Calls Tryz.prog 24 #[.pointer (some ⟨pd,0,none⟩),.int .i64 node] w fun e W=> ∃ p ps pb,e= .returned (.tuple #[.pointer (some ⟨p,0,none⟩),.int .i64 0])∧ SKM N p ps pb pd L (fun g=>N≤g∧g < w.heap.size) (fun _=>False) V ⟨segZ,blkZ,1536+node,1408+node,0⟩ W∧Below w.heap.size w W:=by
 refine (zol pd node hnd w).mono ?_
 rintro e W ⟨p,ps,pb,rfl,h1,h2,h3,hV,hb⟩
 have hD':=hD.mono (G:=fun g=>N≤g∧g < w.heap.size) (fun g h1 h2=>⟨h2,h1⟩)
 refine⟨p,ps,pb,rfl,⟨⟨gl,n,cl,Av,cv,ds,es,hn,hD'.below hb⟩,hV,⟨by omega,by omega,by omega⟩,⟨by omega,by omega,by omega⟩,fun g hg=>⟨hg.1,Nat.lt_of_lt_of_le hg.2 hb.size⟩,fun g hg=>hg.elim,hs,hl,hvp,hD.lenV,znz _ _,?_⟩,hb⟩
 show (1536:Int)+node≠0
 omega
end
end
end Go.Proofs.YthdbckbpldlkeaaGreat
