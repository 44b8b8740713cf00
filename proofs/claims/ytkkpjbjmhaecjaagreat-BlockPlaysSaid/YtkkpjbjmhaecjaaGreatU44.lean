/- None -/
import Derived.Test.YtkkpjbjmhaecjaaGreatU41
import Derived.Test.YtkkpjbjmhaecjaaGreatU43
namespace Go.Proofs.YtkkpjbjmhaecjaaGreat
set_option linter.all false
set_option maxRecDepth 100000
set_option maxHeartbeats 40000000
section
section
open Go.RowKit
def BRecC (W:World) (ps pd:Nat) (Gs:Nat→Prop) (S':BlkS) (O:SegO) (s:Value) (wx:World):Prop:=
 ∃gx Xs As ns cs ds A n c,s= .pointer (some ⟨gx,0,none⟩)∧ W.heap.size≤gx∧Blk wx gx 93 (outV As ns cs O A n c)∧ MsG wx W.heap.size Xs As ns cs O.ms ds∧zbs wx W.heap.size A n c O.b∧FIn Xs A∧(∀q,Xs q→W.heap.size≤q∧q < wx.heap.size)∧ ¬Xs gx∧BV_ wx (fun q=>(Gs q∨W.heap.size≤q)∧ ¬Xs q) ps pd S'∧zbv (fun q=>q=ps) W wx
def BRecR (W:World) (pr pt:Nat) (Gr:Nat→Prop) (S':BlkS) (O:SegO) (s:Value) (wx:World):Prop:=
 ∃gy Bs nbs cbs es B nb cb,s= .pointer (some ⟨gy,0,none⟩)∧ W.heap.size≤gy∧Blk wx gy 118 (outV Bs nbs cbs O B nb cb)∧ OwnMr wx (fun g=>W.heap.size≤g) Bs nbs cbs O.ms es∧zbs wx W.heap.size B nb cb O.b∧RBS wx (fun q=>Gr q∨W.heap.size≤q) pr pt S'∧zbv (fun q=>q=pr) W wx
theorem zn5 {W Wc w3:World}{ps pd:Nat}{Gs:Nat→Prop}{S':BlkS}{O:SegO}{X:Nat→Prop}{As:Option Addr}{ns cs:Nat}{ds:List (Option Addr×Nat)}{A:Option Addr}{n c:Nat}(hb:Below W.heap.size W Wc)(h1:MsG w3 Wc.heap.size X As ns cs O.ms ds)(h2:zbs w3 Wc.heap.size A n c O.b)(h3:FIn X A)(h4:BV_ w3 (fun g=>(Gs g∨Wc.heap.size≤g)∧ ¬X g) ps pd S')(h5:zbv (fun g=>g=ps) Wc w3) :
 BRecC W ps pd Gs S' O (.pointer (some ⟨w3.heap.size,0,none⟩)) (w3.alloc (.cells (outV As ns cs O A n c) 93)):=by
 have z1:=hb.size;have z5:=h5.size;refine⟨w3.heap.size,fun q=>X q∧W.heap.size≤q∧q < w3.heap.size,As,ns,cs,ds,A,n,c,rfl,by omega,Blk.new _ _ _,?_,(h2.mono z1).alloc _,fun q hq=>⟨h3 q hq,by have:=(h2.own.fin q hq).1;omega,(h2.own.fin q hq).2⟩,fun q h=>⟨h.2.1,by have:=h.2.2;simp;omega⟩,fun h=>by have:=h.2.2;omega,?_,(zbv.after hb h5).new _⟩
 · exact (((h1.mono z1).x (fun q a b c=>⟨a,b,c⟩)).only (F:=fun _=>False) (zbv.new (zbv.refl _ _) _) (fun q h=>h.elim))
 · exact h4.keep (fun q hq hlt=>Below.heap_alloc _ _ _ hlt) (by simp) (fun q h6 h=>⟨h.1.imp id (fun h=>by omega),fun k=>h.2 k.1⟩)
theorem zn6 {W Wc w3:World}{gz ps pd:Nat}{Gs:Nat→Prop}{S':BlkS}{O:SegO}{X:Nat→Prop}{As:Option Addr}{ns cs:Nat}{ds:List (Option Addr×Nat)}{A:Option Addr}{n c:Nat}(hb:Below W.heap.size W Wc)(hgz:W.heap.size≤gz)(hz:gz < Wc.heap.size)(hZ:Blk Wc gz 93 (outV none 0 0 outZ none 0 0))(hps:ps < W.heap.size)(h1:MsG w3 Wc.heap.size X As ns cs O.ms ds)(h2:zbs w3 Wc.heap.size A n c O.b)(h3:FIn X A)(h4:BV_ w3 (fun g=>(Gs g∨Wc.heap.size≤g)∧ ¬X g) ps pd S')(h5:zbv (fun g=>g=ps) Wc w3)(hG:∀q,Gs q→q < W.heap.size) :
 BRecC W ps pd Gs S' O (.pointer (some ⟨gz,0,none⟩)) (putO w3 gz As ns cs O A n c):=by
 have z1:=hb.size;have z5:=h5.size;have hZ3:Blk w3 gz 93 (outV none 0 0 outZ none 0 0):=zhe hZ h5 (fun e=>by omega);refine⟨gz,fun q=>X q∧Wc.heap.size≤q∧q < w3.heap.size,As,ns,cs,ds,A,n,c,rfl,hgz,zhs hZ3,?_,(zhv h2 hz _ _ _ _ _ _ _).mono z1,fun q hq=>⟨h3 q hq,(h2.own.fin q hq).1,(h2.own.fin q hq).2⟩,fun q h=>⟨by have:=h.2.1;omega,by rw[zib];exact h.2.2⟩,fun h=>by have:=h.2.1;omega,?_,zhu (zbv.after hb h5) hgz _ _ _ _ _ _ _⟩
 · exact ((h1.x (Y:=fun q=>X q∧Wc.heap.size≤q∧q < w3.heap.size) (fun q a b c=>⟨a,b,c⟩)).keep (fun g hg _=>zia (by omega) _ _ _ _ _ _ _)).mono z1
 · exact h4.keep (fun q hq hlt=>zia (by rcases hq with rfl | hq;omega;(rcases hq.1 with k | k;(have:=hG q k;omega);omega)) _ _ _ _ _ _ _) (by rw[zib];exact Nat.le_refl _) (fun q h6 h=>⟨h.1.imp id (fun h=>by omega),fun k=>h.2 k.1⟩)
theorem zn7 {W w3:World}{pr pt:Nat}{Gr:Nat→Prop}{S':BlkS}{O:SegO}{As:Option Addr}{ns cs:Nat}{es:List (Option Addr×Nat)}{A:Option Addr}{n c:Nat}(h1:OwnMr w3 (fun g=>W.heap.size≤g) As ns cs O.ms es)(h2:zbs w3 W.heap.size A n c O.b)(h4:RBS w3 (fun g=>Gr g∨W.heap.size≤g) pr pt S')(h5:zbv (fun g=>g=pr) W w3) :
 BRecR W pr pt Gr S' O (.pointer (some ⟨w3.heap.size,0,none⟩)) (w3.alloc (.cells (outV As ns cs O A n c) 118)):=by
 have z5:=h5.size;refine⟨w3.heap.size,As,ns,cs,es,A,n,c,rfl,z5,Blk.new _ _ _,?_,h2.alloc _,h4.keep (fun q hq hlt=>Below.heap_alloc _ _ _ hlt) (by simp) (fun q _ h=>h),h5.new _⟩;exact h1.keep (fun g _ hl=>Below.heap_alloc _ _ _ hl)
theorem zn8 {W Wc w3:World}{pr pt:Nat}{Gr:Nat→Prop}{S':BlkS}{O:SegO}{As:Option Addr}{ns cs:Nat}{es:List (Option Addr×Nat)}{A:Option Addr}{n c:Nat}(hb:Below W.heap.size W Wc)(hz:W.heap.size < Wc.heap.size)(hZ:Blk Wc W.heap.size 118 (outV none 0 0 outZ none 0 0))(hpr:pr≠W.heap.size)(h1:OwnMr w3 (fun g=>Wc.heap.size≤g) As ns cs O.ms es)(h2:zbs w3 Wc.heap.size A n c O.b)(h4:RBS w3 (fun g=>Gr g∨Wc.heap.size≤g) pr pt S')(h5:zbv (fun g=>g=pr) Wc w3)(hG:∀q,Gr q→q < W.heap.size) :
 BRecR W pr pt Gr S' O (.pointer (some ⟨W.heap.size,0,none⟩)) (putO w3 W.heap.size As ns cs O A n c):=by
 have z1:=hb.size;have z5:=h5.size;have hZ3:Blk w3 W.heap.size 118 (outV none 0 0 outZ none 0 0):=zhe hZ h5 (fun e=>hpr e.symm);refine⟨W.heap.size,As,ns,cs,es,A,n,c,rfl,Nat.le_refl _,zkg hZ3,?_,(zhv h2 hz _ _ _ _ _ _ _).mono z1,?_,zhu (zbv.after hb h5) (Nat.le_refl _) _ _ _ _ _ _ _⟩
 · exact (h1.keep (fun g hg _=>zia (by have hg:Wc.heap.size≤g:=hg;omega) _ _ _ _ _ _ _)).mono (fun g _ hg=>Nat.le_trans z1 hg)
 · exact h4.keep (fun q hq hlt=>zia (by rcases hq with rfl | hq;exact hpr;(rcases hq with k | k;(have:=hG q k;omega);omega)) _ _ _ _ _ _ _) (by rw[zib];exact Nat.le_refl _) (fun q h6 h=>h.imp id (fun h=>by omega))
theorem zn9 {W':World}{pp pd pt ps pr g:Nat}{lix lsub:Int}{Al:Option Addr}{lb:List UInt8}{cl:Nat}{M:Ms}{A3:Option Addr}{m3 c3 code:Nat}(hp:Blk W' pp 48 #[.pointer (some ⟨pd,0,none⟩),.pointer (some ⟨pt,0,none⟩),.pointer (some ⟨ps,0,none⟩),.pointer (some ⟨pr,0,none⟩),.int .i64 lix,.int .i64 lsub,.slice Al lb.length cl])(ho:Blk W' g 32 (opV 0 M A3 m3 c3 code)):W'.cell? ⟨pp,2,none⟩=some (.pointer (some ⟨ps,0,none⟩))∧ W'.cell? ⟨g,1,none⟩=some (.int .i64 M.kind)∧ W'.cell? ⟨g,2,none⟩=some (.int .i64 M.ix)∧ W'.cell? ⟨g,3,none⟩=some (.int .i64 M.sub)∧ W'.cell? ⟨g,4,none⟩=some (.bool M.tg)∧ W'.cell? ⟨g,5,none⟩=some (.bool M.la)∧ W'.cell? ⟨g,6,none⟩=some (.bool M.cr)∧ W'.cell? ⟨g,7,none⟩=some (.bool M.sz)∧ W'.cell? ⟨g,8,none⟩=some (.int .u32 (M.size:Nat))∧ W'.cell? ⟨g,9,none⟩=some (.int .u32 (M.code:Nat))∧ W'.cell? ⟨g,10,none⟩=some (.slice A3 m3 c3)∧ W'.cell? ⟨g,11,none⟩=some (.int .i64 M.sq)∧ W'.cell? ⟨g,12,none⟩=some (.int .i64 M.bl)∧ W'.cell? ⟨g,13,none⟩=some (.int .i64 M.em)∧ W'.cell? ⟨g,14,none⟩=some (.int .u16 (M.sum:Nat)):=⟨hp.cell 2 rfl,ho.cell 1 rfl,ho.cell 2 rfl,ho.cell 3 rfl,ho.cell 4 rfl,ho.cell 5 rfl,ho.cell 6 rfl,ho.cell 7 rfl,ho.cell 8 rfl,ho.cell 9 rfl,ho.cell 10 rfl,ho.cell 11 rfl,ho.cell 12 rfl,ho.cell 13 rfl,ho.cell 14 rfl⟩
theorem zoa {W':World}{pp pd pt ps pr g:Nat}{lix lsub:Int}{Al:Option Addr}{lb:List UInt8}{cl:Nat}{M:Ms}{A3:Option Addr}{m3 c3 code:Nat}(hp:Blk W' pp 48 #[.pointer (some ⟨pd,0,none⟩),.pointer (some ⟨pt,0,none⟩),.pointer (some ⟨ps,0,none⟩),.pointer (some ⟨pr,0,none⟩),.int .i64 lix,.int .i64 lsub,.slice Al lb.length cl])(ho:Blk W' g 32 (opV 0 M A3 m3 c3 code)):W'.cell? ⟨pp,3,none⟩=some (.pointer (some ⟨pr,0,none⟩))∧ W'.cell? ⟨g,1,none⟩=some (.int .i64 M.kind)∧ W'.cell? ⟨g,2,none⟩=some (.int .i64 M.ix)∧ W'.cell? ⟨g,3,none⟩=some (.int .i64 M.sub)∧ W'.cell? ⟨g,4,none⟩=some (.bool M.tg)∧ W'.cell? ⟨g,5,none⟩=some (.bool M.la)∧ W'.cell? ⟨g,6,none⟩=some (.bool M.cr)∧ W'.cell? ⟨g,7,none⟩=some (.bool M.sz)∧ W'.cell? ⟨g,8,none⟩=some (.int .u32 (M.size:Nat))∧ W'.cell? ⟨g,9,none⟩=some (.int .u32 (M.code:Nat))∧ W'.cell? ⟨g,10,none⟩=some (.slice A3 m3 c3)∧ W'.cell? ⟨g,11,none⟩=some (.int .i64 M.sq)∧ W'.cell? ⟨g,12,none⟩=some (.int .i64 M.bl)∧ W'.cell? ⟨g,13,none⟩=some (.int .i64 M.em)∧ W'.cell? ⟨g,14,none⟩=some (.int .u16 (M.sum:Nat)):=⟨hp.cell 3 rfl,ho.cell 1 rfl,ho.cell 2 rfl,ho.cell 3 rfl,ho.cell 4 rfl,ho.cell 5 rfl,ho.cell 6 rfl,ho.cell 7 rfl,ho.cell 8 rfl,ho.cell 9 rfl,ho.cell 10 rfl,ho.cell 11 rfl,ho.cell 12 rfl,ho.cell 13 rfl,ho.cell 14 rfl⟩
theorem zob {L:List Ent}{V:List (List UInt8)}{S:BlkS}{M:Ms}(hv:∀v ∈ V,v.length≤256)(h:BOk S)(hM:BMOk M)(h7:M.kind=21→7≤M.data.length):BOk (brS L V S M):=by
 refine⟨zk6 hv h.wf hM,?_,?_,?_⟩
 · have hid:∀T:BlkS,T.st=0∨T.st=1∨T.st=3∨T.st=4∨T.st=5∨T.st=6→T.st=2→7≤T.b.length:=fun T h1 h2=>by omega
   unfold brS;split
   · exact hid _ (.inl rfl)
   split
   · unfold bdownS;split
     · exact hid _ (.inl rfl)
     · exact hid _ (.inr (.inl rfl))
   split
   · unfold bupS;split
     · exact hid _ (.inl rfl)
     · exact hid _ (.inr (.inr (.inr (.inl rfl))))
   split
   · exact hid _ (.inl rfl)
   split
   · rename_i hk;have ht:(btake S M).st=2→7≤(btake S M).b.length:=by
      unfold btake;split
      · intro _
        have:=h7 hk.1
        show 7≤(S.b ++ M.data).length;rw[List.length_append];omega
      · intro h2;have h2:S.st=2:=h2;omega
     unfold bpartS;split
     · exact hid _ (.inl rfl)
     split
     · exact hid _ (.inl rfl)
     split
     · exact ht
     · exact ht
   split
   · unfold bendS;split
     · exact hid _ (.inl rfl)
     · exact hid _ (.inr (.inr (.inl rfl)))
   split
   · exact hid _ (.inr (.inr (.inr (.inr (.inl rfl)))))
   split
   · unfold backS;split
     · exact hid _ (.inl rfl)
     split
     · exact hid _ (.inr (.inr (.inr (.inr (.inl rfl)))))
     · exact hid _ (.inr (.inr (.inr (.inr (.inr rfl)))))
   · exact hid _ (.inl rfl)
 · have h1:=h.sz;unfold brS;split
   · exact h1
   split
   · unfold bdownS;split
     · exact h1
     · show -1≤(if M.sz=true then (M.size:Int) else -1);split<;>omega
   split
   · unfold bupS;split<;>exact h1
   split
   · exact h1
   split
   · have ht:(btake S M).sz=S.sz:=by unfold btake;split<;>rfl
     unfold bpartS
     (repeat' split)<;> first | exact h1 | (show -1≤(btake S M).sz;rw[ht];exact h1)
   split
   · unfold bendS;split<;>exact h1
   split
   · exact h1
   split
   · unfold backS
     (repeat' split)<;> exact h1
   · exact h1
 · have hs:=h.st;have k:∀T:BlkS,T.st=0∨T.st=1∨T.st=2∨T.st=3∨T.st=4∨T.st=5∨T.st=6→0≤T.st∧T.st≤6:=fun T h=>by omega
   unfold brS;split
   · exact k _ (.inl rfl)
   split
   · unfold bdownS;split
     · exact k _ (.inl rfl)
     · exact k _ (.inr (.inl rfl))
   split
   · unfold bupS;split
     · exact k _ (.inl rfl)
     · exact k _ (.inr (.inr (.inr (.inr (.inl rfl)))))
   split
   · exact k _ (.inl rfl)
   split
   · rename_i hk;have ht:(btake S M).st=1∨(btake S M).st=2:=by
      unfold btake;split
      · show (if M.la=true then (2:Int) else 1)=1∨(if M.la=true then (2:Int) else 1)=2;split
        · exact .inr rfl
        · exact .inl rfl
      · exact .inl hk.2
     have ht2:0≤(btake S M).st∧(btake S M).st≤6:=by omega
     unfold bpartS
     (repeat' split)<;> first | exact ht2 | exact k _ (.inl rfl)
   split
   · unfold bendS;split
     · exact k _ (.inl rfl)
     · exact k _ (.inr (.inr (.inr (.inl rfl))))
   split
   · exact k _ (.inr (.inr (.inr (.inr (.inr (.inl rfl))))))
   split
   · unfold backS;split
     · exact k _ (.inl rfl)
     split
     · exact k _ (.inr (.inr (.inr (.inr (.inr (.inl rfl))))))
     · exact k _ (.inr (.inr (.inr (.inr (.inr (.inr rfl))))))
   · exact k _ (.inl rfl)
theorem zoc {L:List Ent}{V:List (List UInt8)}{S:BlkS}{M:Ms}(h:(brO L V S M).wr=true):(brO L V S M).ms= []:=by
 revert h
 unfold brO bdownO bupO bpartO bendO backO
 (repeat' split)<;> intro h<;>first | rfl | (exact absurd h (by simp[outZ,outM,outL]))
theorem zod {L:List Ent}{V:List (List UInt8)}{S:BlkS}{M:Ms}(hwf:BWf S):(brO L V S M).b.length≤200000:=by
 have hz:∀l:List Ms,(outL l).b.length≤200000:=fun _=>Nat.zero_le _
 by_cases hk:M.kind=7∧S.st=2
 · have hb:=hwf.b12 (.inr hk.2);have hm:=hwf.mo;have he:(bendB S M).length≤S.b.length:=by unfold bendB;simp
   unfold brO bdownO bupO bpartO bendO backO
   (repeat' split)<;> first | exact Nat.zero_le _ | (show (bendB S M).length≤200000;omega)
 · unfold brO bdownO bupO bpartO bendO backO;rw[if_neg hk]
   (repeat' split)<;> exact Nat.zero_le _
theorem zoe {M:Ms}(h:M.data.length≤200000):(∀K ∈ (outM M).ms,K.data.length≤200000)∧ (outM M).ms.length≤1000:=
 ⟨one_d h,by show [M].length≤1000;simp⟩
theorem zof (S:BlkS)(h:S.ta≤1000):(∀K ∈ bgiveL S,K.data.length≤200000)∧ (bgiveL S).length≤1000:=by
 unfold bgiveL;refine⟨fun K hK=>?_,?_⟩
 · obtain⟨i,_,rfl⟩:=List.mem_map.1 hK;show (bpiece S.b (S.ha.toNat+i)).length≤200000;rw[zjn];omega
 · rw[List.length_map,List.length_range];unfold browN;omega
theorem zog {L:List Ent}{V:List (List UInt8)}{S:BlkS}{M:Ms}(hwf:BWf S)(hM:BMOk M):(∀K ∈ (brO L V S M).ms,K.data.length≤200000)∧ (brO L V S M).ms.length≤1000:=by
 have hz:(∀K ∈ ([]:List Ms),K.data.length≤200000)∧ ([]:List Ms).length≤1000:=⟨by simp,by simp⟩;have h0:∀ {K:Ms},K.data= []→ (∀Q ∈ (outM K).ms,Q.data.length≤200000)∧ (outM K).ms.length≤1000:=fun h=>zoe (by rw[h];exact Nat.zero_le _)
 unfold brO;split
 · exact hz
 split
 · unfold bdownO;split<;>exact h0 rfl
 split
 · unfold bupO;split<;>exact h0 rfl
 split
 · exact h0 rfl
 split
 · unfold bpartO;split
   · exact znt _ _
   split
   · exact hz
   · exact h0 rfl
 split
 · unfold bendO;split
   · exact znt _ _
   · exact hz
 split
 · rename_i hk;exact zof S (hwf.b4 hk.2).2.2.2
 split
 · unfold backO;split
   · exact znt _ _
   split
   · exact zof _ hM.bl.2
   · exact h0 rfl
 split
 · exact hz
 · exact h0 rfl
theorem zoh {f:Ms→Option Addr×Nat→List Value}{k e B:Nat}{w w':World}{F:Nat→Prop}{A A2:Option Addr}{n c n2 c2:Nat}{l:List Ms}{ds:List (Option Addr×Nat)}{b:List UInt8}(h:zb2 f k e Ms.data w F A n c l ds)(hl:l= [])(hO:zbs w B A2 n2 c2 b)(hg:w.grownBy w' (Value.ownBlock (.slice A2 n2 c2)))(hne:e≠5):zb2 f k e Ms.data w' F A n c l ds:=by
 subst hl;exact⟨h.hn,h.hd,h.own.grown hg (zbx h.own hO.own hne),h.inF,by intro j v d h;simp at h⟩
theorem zoi {N:Nat}{L:List Ent}{pp pd pt ps pr:Nat}(M:Ms)(A3:Option Addr)(m3 c3 code:Nat)(w:World)(h:zoz N L pp pd pt ps pr w)(hs:SortedE L)(hL:L.length≤1000)(hm:m3=M.data.length)(hm1:M.data.length≤100)(hMd:∀W,Below N w W→Sl W A3 (M.data.map bv))(hMK:BMOk M)(hM7:M.kind=21→7≤M.data.length)(hem:M.em≤7) :
 Calls Tryz.prog 13 #[.pointer (some ⟨pp,0,none⟩),.agg (opV 0 M A3 m3 c3 code)] w (DoesB N L pp pd pt ps pr w):=by
 obtain⟨V,S,lix,lsub,lb,X0,Gs0,Gr0,Al,cl,hC0,hwf,hvp⟩:=h;have hbw:=za7 (Below.refl w.heap.size w) (.cells (opV 0 M A3 m3 c3 code) 32);have hC:=hC0.below hbw;have hpb0:=hC0.pb.lt;have hNw:N≤w.heap.size:=by have:=hC0.nn.1;omega
 have hbN:Below N w (w.alloc (.cells (opV 0 M A3 m3 c3 code) 32)):=hbw.mono hNw;have hq:=Blk.new w 32 (opV 0 M A3 m3 c3 code);obtain⟨Gs,hGs⟩:∃Gs,Gs=(fun q=>Gs0 q∧q < w.heap.size):=⟨_,rfl⟩;obtain⟨Gr,hGr⟩:∃Gr,Gr=(fun q=>Gr0 q∧q < w.heap.size):=⟨_,rfl⟩;rw[←hGs,←hGr] at hC;have HS:=zak hs;have HL:=zak hL;have HWF:=zak hwf;have HVP:=zak hvp;have hpo:w.heap.size≠pp∧w.heap.size≠ps∧w.heap.size≠pr:=by
  have h1:=hC0.sv.lt;have h2:=hC0.rv.lt;exact⟨by omega,by omega,by omega⟩
 have HH:Hid (znm (fun _=>False) N L pp pd pt ps pr V S S lix lsub lb X0 Gs Gr Al cl _∧Blk _ w.heap.size 32 (opV 0 M A3 m3 c3 code)∧ Below N w _):=zak ⟨hC,hq,hbN⟩;have HDA:=zak (And.intro hm (And.intro hm1 (And.intro hMd hMK.size)));have HMK:=zak (And.intro hMK (And.intro hM7 hem));clear hC hC0 hq hbN hbw hs hL hwf hvp hpb0 hGs hGr hm hm1 hMd hMK hM7 hem;unfold opV at HH;unfold opV;go_enter Tryz.func13,Tryz.ntmps13
 go_upto_region 7 with fail
 refine zb6 (P:=fun W=>znm (fun _=>False) N L pp pd pt ps pr V S S lix lsub lb X0 Gs Gr Al cl W∧Blk W w.heap.size 32 (opV 0 M A3 m3 c3 code)∧ Below N w W) HH.out (fun W hW=>?_);clear HH;obtain⟨hC,hq,hbN⟩:=hW;have HC:=zak hC;have HQ:=zak hq;have HBN:=zak hbN;have zp:=hC.pb.lt;have zq:=hq.lt;have pb:=hC.pb;have oq:=hq;unfold opV at oq;obtain⟨bU,co,bS,cp,bV,bW,bX⟩:=zba pb;have di:=pb.frozen;obtain⟨cq,ct,cy,cz,cA,cB,cC,cD,cE,cF,bN,bO,bP,bQ,bR,bn⟩:=zbe oq;have dk:=oq.frozen;clear hC hq hbN;have hC1:=HC.out.only (zbv.refl _ W);obtain⟨G1,hG1⟩:∃G1,G1=(fun q=>Gs q∧q < W.heap.size):=⟨_,rfl⟩;obtain⟨R1,hR1⟩:∃R1,R1=(fun q=>Gr q∧q < W.heap.size):=⟨_,rfl⟩
 rw[←hG1,←hR1] at hC1;have HG1:Hid (∀q,G1 q→q < W.heap.size):=zak (fun q h=>by rw[hG1] at h;exact h.2);have HR1:Hid (∀q,R1 q→q < W.heap.size):=zak (fun q h=>by rw[hR1] at h;exact h.2);obtain⟨Sx,hSx⟩:∃Sx,Sx=brS L V S M:=⟨_,rfl⟩;obtain⟨O,hO⟩:∃O,O=brO L V S M:=⟨_,rfl⟩;obtain⟨Fd,Fr,gl,n8,cl8,Av,cv,ds,es,Al2,cl2,Av2,cv2,ds2,es2,T⟩:=id hC1.two;have hn8:n8≤1000:=by rw[T.hn];exact HL.out
 have hv256:=zm3 HVP.out T.d.lenV;have HWX:Hid (BOk Sx):=zak (by rw[hSx];exact zob hv256 HWF.out HMK.out.1 HMK.out.2.1);have HOW:Hid (O.wr=true→O.ms= []):=zak (by rw[hO];exact zoc);have HOB:Hid (O.b.length≤200000):=zak (by rw[hO];exact zod HWF.out.wf);have HOM:Hid ((∀K ∈ O.ms,K.data.length≤200000)∧ O.ms.length≤1000):=zak (by rw[hO];exact zog HWF.out.wf HMK.out.1);have HV256:=zak hv256;have hNW:N≤W.heap.size:=by have:=hC1.pb.lt;have:=hC1.nn.1;omega
 have hpsW:=hC1.sv.lt;have hprW:=hC1.rv.lt;have HRC:Hid (∀Wc,Below W.heap.size W Wc→Calls Tryz.prog 36 #[.pointer (some ⟨ps,0,none⟩),.agg (msV M A3 m3 c3)] Wc (BOutG Wc G1 ps pd Sx O)):=zak (fun Wc hb=>by
  rw[hSx,hO];exact zmm ps S G1 M A3 m3 c3 Wc (T.d.below hb) HS.out hn8 hv256 (fun h=>(T.bd ps h).2.2 hC1.xs.2.1) (hC1.sv.keep (fun q _ hlt=>hb.block q hlt) hb.size (fun q _ h=>h)) HWF.out.wf HMK.out.1 HDA.out.1 (by have:=HDA.out.1;have:=HDA.out.2.1;omega) (fun W' ho=>HDA.out.2.2.1 W' (HBN.out.trans ((hb.mono hNW).trans (ho.below (by have:=hb.size;omega) (fun q e=>by rw[e];exact hC1.nn.2.1))))))
 have HC1:=zak hC1;have HSX:=zak hSx;have HOX:=zak hO;clear hC1 hG1 hR1 T hv256 hSx hO hn8;go_cut [7] (fun s wx=>BRecC W ps pd G1 Sx O s wx)
 case first=>
  refine wp_region_held_drew (S:=(fun w'=>w'.cell? ⟨pp,2,none⟩=some (.pointer (some ⟨ps,0,none⟩))∧ w'.cell? ⟨w.heap.size,1,none⟩=some (.int .i64 M.kind)∧ w'.cell? ⟨w.heap.size,2,none⟩=some (.int .i64 M.ix)∧ w'.cell? ⟨w.heap.size,3,none⟩=some (.int .i64 M.sub)∧ w'.cell? ⟨w.heap.size,4,none⟩=some (.bool M.tg)∧ w'.cell? ⟨w.heap.size,5,none⟩=some (.bool M.la)∧ w'.cell? ⟨w.heap.size,6,none⟩=some (.bool M.cr)∧ w'.cell? ⟨w.heap.size,7,none⟩=some (.bool M.sz)∧ w'.cell? ⟨w.heap.size,8,none⟩=some (.int .u32 (M.size:Nat))∧ w'.cell? ⟨w.heap.size,9,none⟩=some (.int .u32 (M.code:Nat))∧ w'.cell? ⟨w.heap.size,10,none⟩=some (.slice A3 m3 c3)∧ w'.cell? ⟨w.heap.size,11,none⟩=some (.int .i64 M.sq)∧ w'.cell? ⟨w.heap.size,12,none⟩=some (.int .i64 M.bl)∧ w'.cell? ⟨w.heap.size,13,none⟩=some (.int .i64 M.em)∧ w'.cell? ⟨w.heap.size,14,none⟩=some (.int .u16 (M.sum:Nat)))) (by kernel_rfl) ?hS1 (fun hHeld=>?rest1)
  case hS1=>((try dsimp only);(exact zn9 HC.out.pb HQ.out))
  case' rest1=>skip
  iterate 6 (refine tkN ?_;try simp only[PqL,Act.put])
  refine wpAnyH_ready (rs:=[6,8]) (by kernel_rfl) (by simp) (AllReadyH.cons (o:=_) rfl (fun K hK=>?_) (AllReadyH.cons (o:=_) rfl (fun K hK=>?_) .nil))
  · go_simp
    refine (zmn M A3 m3 c3 _).mono ?_;rintro e wg ⟨rfl,hbg⟩;unfold msV;dsimp only;replace hbg:=zhy hbg;have HBG:=zak hbg;clear hbg;refine hK.out _ _ ?hS9 (fun hHeld=>?rest9)
    case hS9=>((try dsimp only);(exact zn9 (HC.out.pb.below HBG.out HC.out.pb.lt) (HQ.out.below HBG.out HQ.out.lt)))
    case' rest9=>(clear hK K;try simp only[PqL,Act.put])
    refine wpAnyH_ready (rs:=[7,8]) (by kernel_rfl) (by simp) (AllReadyH.cons (o:=_) rfl (fun K hK=>?_) (AllReadyH.cons (o:=_) rfl (fun K hK=>?_) .nil))
    · go_simp
      refine (HRC.out _ HBG.out).mono ?_;rintro e w3 ⟨Xs,As,ns,cs,ds,A,n,c,rfl,h1,h2,h3,h4,h5⟩;have HF:=zak (zn5 HBG.out h1 h2 h3 h4 h5);have HP3:=zak (zhe (HC.out.pb.below HBG.out HC.out.pb.lt) h5 HC.out.ne.1);have HQ3:=zak (zhe (HQ.out.below HBG.out HQ.out.lt) h5 hpo.2.1);unfold outV;unfold outV at HF;dsimp only;clear h1 h2 h3 h4 h5;refine hK.out _ _ ?hS11 (fun hHeld=>?rest11)
      case hS11=>((try dsimp only);(exact zn9 HP3.out HQ3.out))
      case' rest11=>(clear hK K;try simp only[PqL,Act.put])
      refine kRd 8 (fun K hK=>?_)
      go_simp
      refine hK.out _ _ ?hS14 (fun hHeld=>?rest14)
      case hS14=>((try dsimp only);(exact zn9 (HP3.out.alloc _) (HQ3.out.alloc _)))
      case' rest14=>(clear hK K;try simp only[PqL,Act.put])
      refine kRd 9 (fun K hK=>?_)
      go_simp
      refine hK.out _ _ ?hS17 (fun hHeld=>?rest17)
      case hS17=>((try dsimp only);(exact zn9 (HP3.out.alloc _) (HQ3.out.alloc _)))
      case' rest17=>(clear hK K;try simp only[PqL,Act.put])
      refine wpAnyH_done (by kernel_rfl) ?_ _;have hEnd:=hHeld.2
      repeat (clear hHeld)
      go_wp2_with fail
      go_meet
      exact HF.out
    · go_simp
      refine hK.out _ _ ?hS19 (fun hHeld=>?rest19)
      case hS19=>((try dsimp only);(exact zn9 ((HC.out.pb.below HBG.out HC.out.pb.lt).alloc _) ((HQ.out.below HBG.out HQ.out.lt).alloc _)))
      case' rest19=>(clear hK K;try simp only[PqL,Act.put])
      refine kRd 7 (fun K hK=>?_)
      go_simp
      refine (HRC.out _ (za7 HBG.out _)).mono ?_;rintro e w3 ⟨Xs,As,ns,cs,ds,A,n,c,rfl,h1,h2,h3,h4,h5⟩;have HF:=zak (zn6 (gz:=wg.heap.size) (za7 HBG.out (.cells (outV none 0 0 outZ none 0 0) 93)) HBG.out.size (by simp) (Blk.new wg 93 (outV none 0 0 outZ none 0 0)) hpsW h1 h2 h3 h4 h5 HG1.out);have hzz:wg.heap.size≠ps:=by have:=HBG.out.size;omega
      have kz:=zhe (Blk.new wg 93 (outV none 0 0 outZ none 0 0)) h5 hzz;have HP3:=zak (zhe ((HC.out.pb.below HBG.out HC.out.pb.lt).alloc (.cells (outV none 0 0 outZ none 0 0) 93)) h5 HC.out.ne.1);have HQ3:=zak (zhe ((HQ.out.below HBG.out HQ.out.lt).alloc (.cells (outV none 0 0 outZ none 0 0) 93)) h5 hpo.2.1);have zz3:=kz.lt;have hz1:wg.heap.size≠pp:=by have:=HBG.out.size;have:=HC.out.pb.lt;omega
      have hz2:wg.heap.size≠w.heap.size:=by have:=HBG.out.size;have:=HQ.out.lt;omega
      unfold outV outZ at kz;unfold outV;unfold putO at HF;dsimp only;obtain⟨eR,eS,eT,eU,eV⟩:=za9 kz;have gR:=kz.frozen;clear h1 h2 h3 h4 h5;refine hK.out _ _ ?hS22 (fun hHeld=>?rest22)
      case hS22=>((try dsimp only);(exact zn9 HP3.out HQ3.out))
      case' rest22=>(clear hK K;try simp only[PqL,Act.put])
      refine kRd 9 (fun K hK=>?_)
      go_simp
      refine hK.out _ _ ?hS25 (fun hHeld=>?rest25)
      case hS25=>((try dsimp only);(exact zn9 (zht (O:=O) (As:=As) (ns:=ns) (cs:=cs) (A:=A) (n:=n) (c:=c) HP3.out hz1.symm) (zht (O:=O) (As:=As) (ns:=ns) (cs:=cs) (A:=A) (n:=n) (c:=c) HQ3.out hz2.symm)))
      case' rest25=>(clear hK K;try simp only[PqL,Act.put])
      refine wpAnyH_done (by kernel_rfl) ?_ _;have hEnd:=hHeld.2
      repeat (clear hHeld)
      go_wp2_with fail
      go_meet
      exact HF.out
  · go_simp
    refine hK.out _ _ ?hS27 (fun hHeld=>?rest27)
    case hS27=>((try dsimp only);(exact zn9 (HC.out.pb.alloc _) (HQ.out.alloc _)))
    case' rest27=>(clear hK K;try simp only[PqL,Act.put])
    refine kRd 6 (fun K hK=>?_)
    go_simp
    refine (zmn M A3 m3 c3 _).mono ?_;rintro e wg ⟨rfl,hbg⟩;unfold msV;dsimp only;have HBG:Hid (Below W.heap.size W wg):=zak (ziu (z:= .cells (outV none 0 0 outZ none 0 0) 93) (by simpa [outV,outZ] using hbg));have hZg:Blk wg W.heap.size 93 (outV none 0 0 outZ none 0 0):=ziv (by simpa [outV,outZ] using hbg);have HZG:=zak hZg;clear hbg hZg;refine hK.out _ _ ?hS30 (fun hHeld=>?rest30)
    case hS30=>((try dsimp only);(exact zn9 (HC.out.pb.below HBG.out HC.out.pb.lt) (HQ.out.below HBG.out HQ.out.lt)))
    case' rest30=>(clear hK K;try simp only[PqL,Act.put])
    refine kRd 7 (fun K hK=>?_)
    go_simp
    refine (HRC.out _ HBG.out).mono ?_;rintro e w3 ⟨Xs,As,ns,cs,ds,A,n,c,rfl,h1,h2,h3,h4,h5⟩;have HF:=zak (zn6 (gz:=W.heap.size) HBG.out (Nat.le_refl _) HZG.out.lt HZG.out hpsW h1 h2 h3 h4 h5 HG1.out);have hzz:W.heap.size≠ps:=by omega
    have kz:=zhe HZG.out h5 hzz;have HP3:=zak (zhe (HC.out.pb.below HBG.out HC.out.pb.lt) h5 HC.out.ne.1);have HQ3:=zak (zhe (HQ.out.below HBG.out HQ.out.lt) h5 hpo.2.1);have zz3:=kz.lt;have hz1:W.heap.size≠pp:=by have:=HC.out.pb.lt;omega
    have hz2:W.heap.size≠w.heap.size:=by have:=HQ.out.lt;omega
    unfold outV outZ at kz;unfold outV;unfold putO at HF;dsimp only;obtain⟨eR,eS,eT,eU,eV⟩:=za9 kz;have gR:=kz.frozen;clear h1 h2 h3 h4 h5;refine hK.out _ _ ?hS33 (fun hHeld=>?rest33)
    case hS33=>((try dsimp only);(exact zn9 HP3.out HQ3.out))
    case' rest33=>(clear hK K;try simp only[PqL,Act.put])
    refine kRd 9 (fun K hK=>?_)
    go_simp
    refine hK.out _ _ ?hS36 (fun hHeld=>?rest36)
    case hS36=>((try dsimp only);(exact zn9 (zht (O:=O) (As:=As) (ns:=ns) (cs:=cs) (A:=A) (n:=n) (c:=c) HP3.out hz1.symm) (zht (O:=O) (As:=As) (ns:=ns) (cs:=cs) (A:=A) (n:=n) (c:=c) HQ3.out hz2.symm)))
    case' rest36=>(clear hK K;try simp only[PqL,Act.put])
    refine wpAnyH_done (by kernel_rfl) ?_ _;have hEnd:=hHeld.2
    repeat (clear hHeld)
    go_wp2_with fail
    go_meet
    exact HF.out
 case rest=>
  obtain⟨gx,Xs,As,ns,cs,dsx,A,n,c,rfl,hgx,hBx,hMx,hOx,hXA,hXs,hXgx,hSx,hox⟩:=hcut;have hC2:=HC1.out.prog (Zn:=Xs) hox hSx (fun q h=>h) (fun q h=>(hXs q h).1) (fun q h=>h.elim);have HH2:=zak (show (znm (fun q=>False∨Xs q) N L pp pd pt ps pr V Sx S lix lsub lb (fun q=>X0 q∨W.heap.size≤q) (fun q=>(G1 q∨W.heap.size≤q)∧ ¬Xs q) (fun q=>R1 q∧q < W.heap.size) Al cl wc∧Blk wc w.heap.size 32 (opV 0 M A3 m3 c3 code)∧ Below N w wc∧Blk wc gx 93 (outV As ns cs O A n c)∧ MsG wc W.heap.size Xs As ns cs O.ms dsx∧zbs wc W.heap.size A n c O.b∧(∀q,Xs q→q < wc.heap.size)∧ W.heap.size≤wc.heap.size) from ⟨hC2,zhe HQ.out hox hpo.2.1,HBN.out.trans (hox.below hNW (fun q e=>by rw[e];exact HC1.out.nn.2.1)),hBx,hMx,hOx,fun q h=>(hXs q h).2,hox.size⟩)
  clear bU co bS cp bV bW bX di;clear cq ct cy cz cA cB cC cD cE cF bN bO bP bQ bR bn dk;clear pb oq hC2 hBx hMx hOx hSx hox;go_upto_region 8 with fail
  refine zb6 (P:=fun W2=>znm (fun q=>False∨Xs q) N L pp pd pt ps pr V Sx S lix lsub lb (fun q=>X0 q∨W.heap.size≤q) (fun q=>(G1 q∨W.heap.size≤q)∧ ¬Xs q) (fun q=>R1 q∧q < W.heap.size) Al cl W2∧Blk W2 w.heap.size 32 (opV 0 M A3 m3 c3 code)∧ Below N w W2∧Blk W2 gx 93 (outV As ns cs O A n c)∧ MsG W2 W.heap.size Xs As ns cs O.ms dsx∧zbs W2 W.heap.size A n c O.b∧(∀q,Xs q→q < W2.heap.size)∧ W.heap.size≤W2.heap.size) HH2.out (fun W2 hW2=>?_);clear HH2;obtain⟨hC2,hQ2,hbN2,hBx,hMx,hOx,hXlt,hWW2⟩:=hW2;obtain⟨R2,hR2⟩:∃R2,R2=(fun q=>R1 q∧q < W.heap.size):=⟨_,rfl⟩;rw[←hR2] at hC2;have HR2:Hid (∀q,R2 q→q < W2.heap.size):=zak (fun q h=>by rw[hR2] at h;have:=h.2;omega)
  have HC2:=zak hC2;have HQ2:=zak hQ2;have HBN2:=zak hbN2;have HMO:=zak (And.intro hBx (And.intro hMx hOx));have HXL:=zak hXlt;have hNW2:N≤W2.heap.size:=by omega
  have HRR:Hid (∀Wc,Below W2.heap.size W2 Wc→Calls Tryz.prog 48 #[.pointer (some ⟨pr,0,none⟩),.agg (msV M A3 m3 c3)] Wc (RBOS Wc R2 pr pt Sx O)):=zak (fun Wc hb=>by
   rw[HSX.out,HOX.out];obtain⟨Fd,Fr,gl,n8,cl8,Av,cv,ds,es,Al2,cl2,Av2,cv2,ds2,es2,T⟩:=id hC2.two;exact zmd pr S R2 M A3 m3 c3 Wc (T.r.below hb) (by rw[T.hn];exact HL.out) HV256.out (fun h=>(T.br pr h).2.2 hC2.xs.2.2) (hC2.rv.keep (fun q _ hlt=>hb.block q hlt) hb.size (fun q _ h=>h)) HWF.out.wf HWF.out.b2 HWF.out.sz HWF.out.st HMK.out.1 HMK.out.2.2 HDA.out.1 (by have:=HDA.out.1;have:=HDA.out.2.1;omega) (fun W' ho=>HDA.out.2.2.1 W' (hbN2.trans ((hb.mono hNW2).trans (ho.below (by have:=hb.size;omega) (fun q e=>by rw[e];exact hC2.nn.2.2))))))
  have zp2:=hC2.pb.lt;have zq2:=hQ2.lt;clear hC2 hR2 hQ2 hbN2 hBx hMx hOx hXlt;go_cut [8] (fun s wx=>BRecR W2 pr pt R2 Sx O s wx)
  case first=>
   refine wp_region_held_drew (S:=(fun w'=>w'.cell? ⟨pp,3,none⟩=some (.pointer (some ⟨pr,0,none⟩))∧ w'.cell? ⟨w.heap.size,1,none⟩=some (.int .i64 M.kind)∧ w'.cell? ⟨w.heap.size,2,none⟩=some (.int .i64 M.ix)∧ w'.cell? ⟨w.heap.size,3,none⟩=some (.int .i64 M.sub)∧ w'.cell? ⟨w.heap.size,4,none⟩=some (.bool M.tg)∧ w'.cell? ⟨w.heap.size,5,none⟩=some (.bool M.la)∧ w'.cell? ⟨w.heap.size,6,none⟩=some (.bool M.cr)∧ w'.cell? ⟨w.heap.size,7,none⟩=some (.bool M.sz)∧ w'.cell? ⟨w.heap.size,8,none⟩=some (.int .u32 (M.size:Nat))∧ w'.cell? ⟨w.heap.size,9,none⟩=some (.int .u32 (M.code:Nat))∧ w'.cell? ⟨w.heap.size,10,none⟩=some (.slice A3 m3 c3)∧ w'.cell? ⟨w.heap.size,11,none⟩=some (.int .i64 M.sq)∧ w'.cell? ⟨w.heap.size,12,none⟩=some (.int .i64 M.bl)∧ w'.cell? ⟨w.heap.size,13,none⟩=some (.int .i64 M.em)∧ w'.cell? ⟨w.heap.size,14,none⟩=some (.int .u16 (M.sum:Nat)))) (by kernel_rfl) ?hS38 (fun hHeld=>?rest38)
   case hS38=>((try dsimp only);(exact zoa HC2.out.pb HQ2.out))
   case' rest38=>skip
   iterate 6 (refine tkN ?_;try simp only[PqL,Act.put])
   refine wpAnyH_ready (rs:=[6,7]) (by kernel_rfl) (by simp) (AllReadyH.cons (o:=_) rfl (fun K hK=>?_) (AllReadyH.cons (o:=_) rfl (fun K hK=>?_) .nil))
   · go_simp
     refine (HRR.out _ (Below.drew (Below.refl _ _))).mono ?_;rintro e w3 ⟨Bs,nbs,cbs,es,B,nb,cb,rfl,h1,h2,h4,h5⟩;replace h5:=zm4 h5;have HF:=zak (zn7 (W:=W2) h1 h2 h4 h5);have HP3:=zak (zhe HC2.out.pb h5 HC2.out.ne.2.1);have HQ3:=zak (zhe HQ2.out h5 hpo.2.2);unfold outV;unfold outV at HF;dsimp only;clear h1 h2 h4 h5;refine hK.out _ _ ?hS46 (fun hHeld=>?rest46)
     case hS46=>((try dsimp only);(exact zoa HP3.out HQ3.out))
     case' rest46=>(clear hK K;try simp only[PqL,Act.put])
     refine kRd 7 (fun K hK=>?_)
     go_simp
     refine hK.out _ _ ?hS49 (fun hHeld=>?rest49)
     case hS49=>((try dsimp only);(exact zoa (HP3.out.alloc _) (HQ3.out.alloc _)))
     case' rest49=>(clear hK K;try simp only[PqL,Act.put])
     refine kRd 8 (fun K hK=>?_)
     go_simp
     refine hK.out _ _ ?hS52 (fun hHeld=>?rest52)
     case hS52=>((try dsimp only);(exact zoa (HP3.out.alloc _) (HQ3.out.alloc _)))
     case' rest52=>(clear hK K;try simp only[PqL,Act.put])
     refine wpAnyH_done (by kernel_rfl) ?_ _;have hEnd:=hHeld.2
     repeat (clear hHeld)
     go_wp2_with fail
     go_meet
     exact HF.out
   · go_simp
     refine hK.out _ _ ?hS54 (fun hHeld=>?rest54)
     case hS54=>((try dsimp only);(exact zoa (HC2.out.pb.alloc _) (HQ2.out.alloc _)))
     case' rest54=>(clear hK K;try simp only[PqL,Act.put])
     refine kRd 6 (fun K hK=>?_)
     go_simp
     refine (HRR.out _ (by first | exact (za7 (Below.refl _ _) _).trans (Below.drew (Below.refl _ _)) | exact za7 (Below.drew (Below.refl _ _)) _ | exact za7 (Below.refl _ _) _)).mono ?_;rintro e w3 ⟨Bs,nbs,cbs,es,B,nb,cb,rfl,h1,h2,h4,h5⟩;have h5':zbv (fun q=>q=pr) (W2.alloc (.cells (outV none 0 0 outZ none 0 0) 118)) w3:=⟨h5.os,h5.tape,h5.output,h5.size,h5.block⟩;have HF:=zak (zn8 (W:=W2) (Wc:=W2.alloc (.cells (outV none 0 0 outZ none 0 0) 118)) (za7 (Below.refl _ _) _) (by simp) (Blk.new W2 118 (outV none 0 0 outZ none 0 0)) (by omega) h1 h2 h4 h5' HR2.out);have hzz:W2.heap.size≠pr:=by omega
     have kz:=zhe (Blk.new W2 118 (outV none 0 0 outZ none 0 0)) h5' hzz;have HP3:=zak (zhe (HC2.out.pb.alloc (.cells (outV none 0 0 outZ none 0 0) 118)) h5' HC2.out.ne.2.1);have HQ3:=zak (zhe (HQ2.out.alloc (.cells (outV none 0 0 outZ none 0 0) 118)) h5' hpo.2.2);have zz3:=kz.lt;have hz1:W2.heap.size≠pp:=by omega
     have hz2:W2.heap.size≠w.heap.size:=by omega
     unfold outV outZ at kz;unfold outV;unfold putO at HF;dsimp only;obtain⟨eR,eS,eT,eU,eV⟩:=za9 kz;have gR:=kz.frozen;clear h1 h2 h4 h5 h5';refine hK.out _ _ ?hS57 (fun hHeld=>?rest57)
     case hS57=>((try dsimp only);(exact zoa HP3.out HQ3.out))
     case' rest57=>(clear hK K;try simp only[PqL,Act.put])
     refine kRd 8 (fun K hK=>?_)
     go_simp
     refine hK.out _ _ ?hS60 (fun hHeld=>?rest60)
     case hS60=>((try dsimp only);(exact zoa (zht (O:=O) (As:=Bs) (ns:=nbs) (cs:=cbs) (A:=B) (n:=nb) (c:=cb) HP3.out hz1.symm) (zht (O:=O) (As:=Bs) (ns:=nbs) (cs:=cbs) (A:=B) (n:=nb) (c:=cb) HQ3.out hz2.symm)))
     case' rest60=>(clear hK K;try simp only[PqL,Act.put])
     refine wpAnyH_done (by kernel_rfl) ?_ _;have hEnd:=hHeld.2
     repeat (clear hHeld)
     go_wp2_with fail
     go_meet
     exact HF.out
  case rest=>
   obtain⟨gy,Bs,nbs,cbs,esx,B,nb,cb,rfl,hgy,hBy,hMy,hOy,hSy,hoy⟩:=hcut;have hC3:=HC2.out.refc hoy hSy (fun q h=>h) (fun q h=>h.elim (fun h=>h.elim) (HXL.out q));have HH3:=zak (show (znm (fun q=>False∨Xs q) N L pp pd pt ps pr V Sx Sx lix lsub lb (fun q=>(X0 q∨W.heap.size≤q)∨ W2.heap.size≤q) (fun q=>((G1 q∨W.heap.size≤q)∧ ¬Xs q)∧ q < W2.heap.size) (fun q=>R2 q∨W2.heap.size≤q) Al cl wc∧Below N w wc∧Blk wc gx 93 (outV As ns cs O A n c)∧ MsG wc W.heap.size Xs As ns cs O.ms dsx∧zbs wc W.heap.size A n c O.b∧Blk wc gy 118 (outV Bs nbs cbs O B nb cb)∧ OwnMr wc (fun g=>W2.heap.size≤g) Bs nbs cbs O.ms esx∧zbs wc W2.heap.size B nb cb O.b) from ⟨hC3,HBN2.out.trans (hoy.below hNW2 (fun q e=>by rw[e];exact HC2.out.nn.2.2)),zhe HMO.out.1 hoy (by omega),HMO.out.2.1.only hoy (fun q e=>by omega),zhf HMO.out.2.2 hoy (fun q h1 _ e=>by omega),hBy,hMy,hOy⟩)
   clear hC3 hBy hMy hOy hSy hoy;go_upto_region 9 with fail
   refine zb6 (P:=fun W3=>znm (fun q=>False∨Xs q) N L pp pd pt ps pr V Sx Sx lix lsub lb (fun q=>(X0 q∨W.heap.size≤q)∨ W2.heap.size≤q) (fun q=>((G1 q∨W.heap.size≤q)∧ ¬Xs q)∧ q < W2.heap.size) (fun q=>R2 q∨W2.heap.size≤q) Al cl W3∧Below N w W3∧Blk W3 gx 93 (outV As ns cs O A n c)∧ MsG W3 W.heap.size Xs As ns cs O.ms dsx∧zbs W3 W.heap.size A n c O.b∧Blk W3 gy 118 (outV Bs nbs cbs O B nb cb)∧ OwnMr W3 (fun g=>W2.heap.size≤g) Bs nbs cbs O.ms esx∧zbs W3 W2.heap.size B nb cb O.b) HH3.out (fun W3 hW3=>?_);clear HH3;obtain⟨hC3,hbN3,hBx,hMx,hOx,hBy,hMy,hOy⟩:=hW3;have HC3:=zak hC3;have HBN3:=zak hbN3;have HMX:=zak hMx
   have HOXX:=zak hOx;have HMY:=zak hMy;have HOY:=zak hOy;have kx:=hBx;have ky:=hBy;unfold outV at kx ky;have zx:=kx.lt;have zy:=ky.lt;obtain⟨q1,q2⟩:=zbg W3 46 46 #[.int .i64 O.ix,.int .i64 O.sub,.slice A n c] #[.int .i64 O.ix,.int .i64 O.sub,.slice B nb cb];have HQQ:=zak (And.intro q1 q2);have HKX:=zak hBx;have HKY:=zak hBy;clear hC3 hbN3 hBx hMx hOx hBy hMy hOy q1 q2;obtain⟨eW,ey,eX,eY,eZ⟩:=za9 kx;have gS:=kx.frozen;obtain⟨fa,ez,fb,fc,fd⟩:=za9 ky;have gT:=ky.frozen;have hbv:=za7 (za7 (Below.refl W3.heap.size W3) (.cells #[.int .i64 O.ix,.int .i64 O.sub,.slice A n c] 46)) (.cells #[.int .i64 O.ix,.int .i64 O.sub,.slice B nb cb] 46)
   have HBV:=zak hbv;have HSV1:=zak (zm7 (b:=O.b) HQQ.out.1 HOXX.out.hn HOXX.out.le (HOXX.out.sl.below hbv));have HSV2:=zak (zm7 (b:=O.b) HQQ.out.2 HOY.out.hn HOY.out.le (HOY.out.sl.below hbv));clear hbv;obtain⟨wr,hwr⟩:∃wr,wr=O.wr:=⟨_,rfl⟩;rw[←hwr] at ey ez;have HWR:=zak hwr;clear hwr;cases wr
   · skip
     go_wp2_with fail
     refine (zmy (some ⟨W3.heap.size,0,none⟩) (some ⟨W3.heap.size+1,0,none⟩) 1 1 1 1 [⟨O.ix,O.sub,O.b⟩] _ rfl rfl (Nat.le_refl _) (Nat.le_refl _) (by omega) HSV1.out HSV2.out).mono ?_;rintro e w6 ⟨rfl,hb6⟩;have hb36:=za5 hb6 HBV.out;have hNW3:N≤W3.heap.size:=by have:=HC3.out.pb.lt;have:=HC3.out.nn.1;omega
     have hC6:=HC3.out.below hb36;have HC6:=zak hC6;have HBN6:Hid (Below N w w6):=zak (HBN3.out.trans (hb36.mono hNW3));have kx6:=HKX.out.below hb36 HKX.out.lt;have ky6:=HKY.out.below hb36 HKY.out.lt;unfold outV at kx6 ky6;rw[←HWR.out] at kx6 ky6;have zx6:=kx6.lt;have zy6:=ky6.lt;clear eW ey eX eY eZ gS;clear fa ez fb fc fd gT;clear kx ky;obtain⟨eA,eB,eC,eD,eE⟩:=za9 kx6;have ff:=kx6.frozen;obtain⟨eF,eG,eH,eI,eJ⟩:=za9 ky6;have fg:=ky6.frozen;have HT:Hid (znr N L pp pd pt ps pr w As ns cs Bs nbs cbs w6):=zak (znq HBN6.out hC6 HWX.out HVP.out (HMX.out.only (zbv.of_below (F:=fun _=>False) hb36) (fun q h=>h.elim)) (fun q h=> .inr h) (HMY.out.below hb36) hNW hNW2 HOM.out.1 HOM.out.2)
     clear hb6 hb36 hC6;go_upto_region 28 with fail
     refine zb6 (P:=znr N L pp pd pt ps pr w As ns cs Bs nbs cbs) HT.out (fun W9 hW9=>?_);clear HT;obtain⟨hb9,hN9,l9,ds9,es9,hO9,hO9b,hl9,hk9,hP9⟩:=hW9;have HP9:=zak hP9;have HO9:=zak hO9;have HO9b:=zak hO9b;have HL9:=zak hl9;have HN9:Hid (ns=l9.length):=zak hO9.1.hn;have HN9b:Hid (nbs=l9.length):=zak hO9b.hn;have hn9:ns≤1000:=by rw[HN9.out];exact hk9
     clear hP9 hO9 hO9b hl9 hk9;go_wp2_with fail
     refine (znd l9 ds9 As ns cs _ HN9.out (by omega) (zna HO9.out.1)).mono ?_;rintro e wa ⟨Aa,ca,rfl,hSa,hba⟩;have HSA:=zak hSa;have HBA:=zak hba;clear hSa hba;go_wp2_with fail
     refine (znb l9 ds9 es9 Aa Bs ns ca nbs cbs _ HN9.out HN9b.out (by omega) HSA.out ((zna HO9b.out).below HBA.out)).mono ?_;rintro e wb ⟨rfl,hbb⟩;have HBAB:=zak (za5 hbb HBA.out);clear hbb;go_wp2_with fail
     go_loopw [11] (fun s11 wx=> ∃k:Nat,s11= .int .i64 (k:Nat)∧ k≤ns∧Hid (zne As ns cs l9 ds9 wb k wx)) (fun s11 _=>ns - (intOf s11).toNat)
     case atStart=>exact⟨0,rfl,Nat.zero_le _,zak (zne.start (HO9.out.below HBAB.out))⟩
     case round=>
      obtain⟨k,rfl,hk,HSP⟩:=hrel;by_cases hlt:k < ns
      · obtain⟨M9,hM9⟩:∃M,l9[k]? =some M:=⟨l9[k]'(by rw[←HN9.out];exact hlt),List.getElem?_eq_getElem _⟩;obtain⟨g9,d9,hA9,hg9,hd9,hc9,hO9'⟩:=HSP.out.at_ hM9;subst hA9;have HE:=zak (And.intro hM9 hd9);have HOd:=zak hO9';have hn9l:M9.data.length≤35184372088832:=by have:=HL9.out M9 (List.mem_of_getElem? hM9);omega
        clear hM9 hd9 hO9';go_wp2_with fail
        refine (zes d9.1 M9.data.length d9.2 0 M9.data _ hn9l HOd.out.own (Nat.zero_le _)).mono ?_;rintro e wc ⟨rfl,hgc⟩;have HGC:=zak (HSP.out.step HE.out.1 HE.out.2 hgc);clear hgc;go_wp2_with fail
        exact⟨⟨k+1,by congr 1,by omega,HGC⟩,by simp only[intOf];omega⟩
      · obtain rfl:k=ns:=by omega
        have HF:Hid (DoesB N L pp pd pt ps pr w (.returned (.bool true)) wr):=zak (znp hb9 hN9 HO9.out HP9.out HBAB.out HSP.out);go_wp2_with fail
        go_ret
        exact HF.out
   · skip
     go_wp2_with fail
     refine (zmy (some ⟨W3.heap.size,0,none⟩) (some ⟨W3.heap.size+1,0,none⟩) 1 1 1 1 [⟨O.ix,O.sub,O.b⟩] _ rfl rfl (Nat.le_refl _) (Nat.le_refl _) (by omega) HSV1.out HSV2.out).mono ?_;rintro e w6 ⟨rfl,hb6⟩;have hb36:=za5 hb6 HBV.out;have hNW3:N≤W3.heap.size:=by have:=HC3.out.pb.lt;have:=HC3.out.nn.1;omega
     have hC6:=HC3.out.below hb36;have HC6:=zak hC6;have HBN6:Hid (Below N w w6):=zak (HBN3.out.trans (hb36.mono hNW3));have kx6:=HKX.out.below hb36 HKX.out.lt;have ky6:=HKY.out.below hb36 HKY.out.lt;unfold outV at kx6 ky6;rw[←HWR.out] at kx6 ky6;have zx6:=kx6.lt;have zy6:=ky6.lt;clear eW ey eX eY eZ gS;clear fa ez fb fc fd gT;clear kx ky;obtain⟨eA,eB,eC,eD,eE⟩:=za9 kx6;have ff:=kx6.frozen;obtain⟨eF,eG,eH,eI,eJ⟩:=za9 ky6;have fg:=ky6.frozen;have hms:=HOW.out HWR.out.symm;have hnb:=HOY.out.hn;subst hnb;have pb6:=hC6.pb;have zpp6:=pb6.lt;have OA6:=zak (HOXX.out.below hb36);have hB7:Blk (((w6.setCell ⟨pp,4,none⟩ (.int .i64 O.ix)).setCell ⟨pp,5,none⟩ (.int .i64 O.sub)).setCell ⟨pp,6,none⟩ (.slice B O.b.length cb)) pp 48 #[.pointer (some ⟨pd,0,none⟩),.pointer (some ⟨pt,0,none⟩),.pointer (some ⟨ps,0,none⟩),.pointer (some ⟨pr,0,none⟩),.int .i64 O.ix,.int .i64 O.sub,.slice B O.b.length cb]:=((pb6.set_ 4 (.int .i64 O.ix)).set_ 5 (.int .i64 O.sub)).set_ 6 (.slice B O.b.length cb)
     have ho7:zbv (fun q=>q=pp) w6 (((w6.setCell ⟨pp,4,none⟩ (.int .i64 O.ix)).setCell ⟨pp,5,none⟩ (.int .i64 O.sub)).setCell ⟨pp,6,none⟩ (.slice B O.b.length cb)):=zbv.set (fun q=>q=pp) (zbv.set (fun q=>q=pp) (zbv.set (fun q=>q=pp) (zbv.refl _ w6) (i:=4) rfl _) (i:=5) rfl _) (i:=6) rfl _;have hC7:=hC6.last ho7 hB7 HOY.out.le HOB.out (HOY.out.sl.below hb36) (fun ad e=>by
      rcases HOY.out.own.shape with ⟨hx,_,_⟩ | ⟨q',hx,h1,h2⟩
      · rw[hx] at e;cases e
      · rw[hx] at e;injection e with e
        subst e;have h1:W2.heap.size≤q':=h1;have h2:q' < W3.heap.size:=h2;have h3:=hb36.size;have h4:=HC.out.pb.lt;exact⟨show q' < w6.heap.size by omega,show q'≠pp by omega,show q'≠ps by omega,show q'≠pr by omega,fun h=>h.elim (fun h=>h) (fun h=>by have:=HXL.out q' h;omega),.inr h1⟩)
     have hzx:gx≠pp:=by have:=HC.out.pb.lt;omega
     have hzy:gy≠pp:=by have:=HC.out.pb.lt;omega
     have HH7:=zak (show (znm (fun q=>False∨Xs q) N L pp pd pt ps pr V Sx Sx O.ix O.sub O.b (fun q=>(X0 q∨W.heap.size≤q)∨ W2.heap.size≤q) (fun q=>((((G1 q∨W.heap.size≤q)∧ ¬Xs q)∧ q < W2.heap.size)∧ q < W3.heap.size)∧ q < w6.heap.size) (fun q=>((R2 q∨W2.heap.size≤q)∧ q < W3.heap.size)∧ q < w6.heap.size) B cb _∧Below N w _∧Blk _ gx 93 #[.slice As ns cs,.bool true,.int .i64 O.ix,.int .i64 O.sub,.slice A n c]∧ Blk _ gy 118 #[.slice Bs nbs cbs,.bool true,.int .i64 O.ix,.int .i64 O.sub,.slice B O.b.length cb]∧ zbs _ W.heap.size A n c O.b∧MsG _ W.heap.size Xs As ns cs O.ms dsx∧OwnMr _ (fun g=>W2.heap.size≤g) Bs nbs cbs O.ms esx) from ⟨hC7,HBN6.out.trans (ho7.below (by have:=hb36.size;omega) (fun q e=>by rw[e];exact hC6.nn.1)),zhe kx6 ho7 hzx,zhe ky6 ho7 hzy,zhf OA6.out ho7 (fun q h1 _ e=>by have:=HC.out.pb.lt;omega),(HMX.out.only (zbv.of_below (F:=fun _=>False) hb36) (fun q h=>h.elim)).only ho7 (fun q e=>by rw[e];exact HC.out.pb.lt),(HMY.out.below hb36).keep (fun g hg hl=>ho7.block g hl (fun e=>by have hg:W2.heap.size≤g:=hg;have:=HC.out.pb.lt;omega))⟩)
     obtain⟨fO,fP,fQ,fR,fS,fT,fU⟩:=zba pb6;have gU:=pb6.frozen;clear hC7 hB7 ho7 hC6 hb6 hb36;go_wp2_with fail
     refine zkr (P:=fun W7=>znm (fun q=>False∨Xs q) N L pp pd pt ps pr V Sx Sx O.ix O.sub O.b (fun q=>(X0 q∨W.heap.size≤q)∨ W2.heap.size≤q) (fun q=>((((G1 q∨W.heap.size≤q)∧ ¬Xs q)∧ q < W2.heap.size)∧ q < W3.heap.size)∧ q < w6.heap.size) (fun q=>((R2 q∨W2.heap.size≤q)∧ q < W3.heap.size)∧ q < w6.heap.size) B cb W7∧Below N w W7∧Blk W7 gx 93 #[.slice As ns cs,.bool true,.int .i64 O.ix,.int .i64 O.sub,.slice A n c]∧ Blk W7 gy 118 #[.slice Bs nbs cbs,.bool true,.int .i64 O.ix,.int .i64 O.sub,.slice B O.b.length cb]∧ zbs W7 W.heap.size A n c O.b∧MsG W7 W.heap.size Xs As ns cs O.ms dsx∧OwnMr W7 (fun g=>W2.heap.size≤g) Bs nbs cbs O.ms esx) HH7.out (fun W7 hW7=>?_)
     clear HH7;obtain⟨hC7,hbN7,hBx7,hBy7,hO7,hM7,hM7b⟩:=hW7;have HM7:=zak (And.intro hM7 hM7b);clear hM7 hM7b;have hN7:N≤W7.heap.size:=by have:=hC7.pb.lt;have:=hC7.nn.1;omega
     have HC7:=zak hC7;have HBN7:=zak hbN7;have HO7:=zak hO7;have hnl:n≤35184372088832:=by have:=HO7.out.hn;have:=HOB.out;omega
     refine (zes A n c W.heap.size O.b _ hnl hO7.own (by have:=hC7.pb.lt;have:=hBx7.lt;omega)).mono ?_;rintro e w8 ⟨rfl,hg8⟩;have ho8:zbv (fun q=>A=some ⟨q,0,none⟩) W7 w8:=zbv.of_grown hg8 (fun q hq=>by
      rcases HO7.out.own.shape with ⟨hx,_,_⟩ | ⟨q',hx,_,_⟩
      · rw[hx] at hq;simp[Value.ownBlock] at hq
      · rw[hx] at hq ⊢;simp[Value.ownBlock] at hq;subst hq
        rfl)
     have hC8:=hC7.only (ho8.mono (fun q _ h=> .inr (hXA q h)));have HT:Hid (znr N L pp pd pt ps pr w As ns cs Bs nbs cbs w8):=zak (znq (hbN7.trans (ho8.below hN7 (fun q h=>by have:=HO7.out.own.fin q h;have:=this.1;omega))) hC8 HWX.out HVP.out (Xs:=Xs) ⟨⟨zoh HM7.out.1.1.1 hms HO7.out hg8 (by decide),HM7.out.1.1.2⟩,HM7.out.1.2⟩ (fun q h=> .inr h) (zoh HM7.out.2 hms HO7.out hg8 (by decide)) hNW hNW2 HOM.out.1 HOM.out.2);have kx8:=zhe hBx7 ho8 (fun h=>hXgx (hXA gx h));have ky8:=zhe hBy7 ho8 (fun h=>by have:=HXL.out gy (hXA gy h);omega);have zx8:=kx8.lt;have zy8:=ky8.lt;clear eA eB eC eD eE ff;clear eF eG eH eI eJ fg
     clear fO fP fQ fR fS fT fU gU;clear kx6 ky6 pb6 hC7 hbN7 hBx7 hBy7 hO7 hC8 ho8;obtain⟨iR,iS,iT,iU,iV⟩:=za9 kx8;have ke:=kx8.frozen;obtain⟨iW,iX,iY,iZ,i4⟩:=za9 ky8;have kg:=ky8.frozen;go_upto_region 28 with fail
     refine zb6 (P:=znr N L pp pd pt ps pr w As ns cs Bs nbs cbs) HT.out (fun W9 hW9=>?_);clear HT;obtain⟨hb9,hN9,l9,ds9,es9,hO9,hO9b,hl9,hk9,hP9⟩:=hW9;have HP9:=zak hP9;have HO9:=zak hO9;have HO9b:=zak hO9b;have HL9:=zak hl9;have HN9:Hid (ns=l9.length):=zak hO9.1.hn;have HN9b:Hid (nbs=l9.length):=zak hO9b.hn;have hn9:ns≤1000:=by rw[HN9.out];exact hk9
     clear hP9 hO9 hO9b hl9 hk9;go_wp2_with fail
     refine (znd l9 ds9 As ns cs _ HN9.out (by omega) (zna HO9.out.1)).mono ?_;rintro e wa ⟨Aa,ca,rfl,hSa,hba⟩;have HSA:=zak hSa;have HBA:=zak hba;clear hSa hba;go_wp2_with fail
     refine (znb l9 ds9 es9 Aa Bs ns ca nbs cbs _ HN9.out HN9b.out (by omega) HSA.out ((zna HO9b.out).below HBA.out)).mono ?_;rintro e wb ⟨rfl,hbb⟩;have HBAB:=zak (za5 hbb HBA.out);clear hbb;go_wp2_with fail
     go_loopw [11] (fun s11 wx=> ∃k:Nat,s11= .int .i64 (k:Nat)∧ k≤ns∧Hid (zne As ns cs l9 ds9 wb k wx)) (fun s11 _=>ns - (intOf s11).toNat)
     case atStart=>exact⟨0,rfl,Nat.zero_le _,zak (zne.start (HO9.out.below HBAB.out))⟩
     case round=>
      obtain⟨k,rfl,hk,HSP⟩:=hrel;by_cases hlt:k < ns
      · obtain⟨M9,hM9⟩:∃M,l9[k]? =some M:=⟨l9[k]'(by rw[←HN9.out];exact hlt),List.getElem?_eq_getElem _⟩;obtain⟨g9,d9,hA9,hg9,hd9,hc9,hO9'⟩:=HSP.out.at_ hM9;subst hA9;have HE:=zak (And.intro hM9 hd9);have HOd:=zak hO9';have hn9l:M9.data.length≤35184372088832:=by have:=HL9.out M9 (List.mem_of_getElem? hM9);omega
        clear hM9 hd9 hO9';go_wp2_with fail
        refine (zes d9.1 M9.data.length d9.2 0 M9.data _ hn9l HOd.out.own (Nat.zero_le _)).mono ?_;rintro e wc ⟨rfl,hgc⟩;have HGC:=zak (HSP.out.step HE.out.1 HE.out.2 hgc);clear hgc;go_wp2_with fail
        exact⟨⟨k+1,by congr 1,by omega,HGC⟩,by simp only[intOf];omega⟩
      · obtain rfl:k=ns:=by omega
        have HF:Hid (DoesB N L pp pd pt ps pr w (.returned (.bool true)) wr):=zak (znp hb9 hN9 HO9.out HP9.out HBAB.out HSP.out);go_wp2_with fail
        go_ret
        exact HF.out
end
end
end Go.Proofs.YtkkpjbjmhaecjaaGreat
