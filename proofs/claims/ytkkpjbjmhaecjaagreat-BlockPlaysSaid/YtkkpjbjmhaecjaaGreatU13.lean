/- None -/
import Derived.Test.YtkkpjbjmhaecjaaGreatU12
namespace Go.Proofs.YtkkpjbjmhaecjaaGreat
set_option linter.all false
set_option maxRecDepth 100000
set_option maxHeartbeats 4000000
section
open Go.RowKit
theorem zhw {α:Type}{f: α→Option Addr×Nat→List Value}{k:Nat}{e:TypeId}{dat: α→List UInt8}{F:Nat→Prop}{o:Oper}{a:Act}{K:Act→World→Prop}{Q:Exit→Act→World→Prop}{w:World}(s x:Operand)(ty:TypeId)
 (ho:o.op= .call { callee:= .builtin .append,args:=#[s,x],argTypes:=#[ty,ty] })
 (hf:∀v d,(f v d).length=k) (hone:∀v d,∀u ∈ f v d,u.oneCell'=true) (hne:5≠e) (bytes:Nat) (z:Value) (hu:Tryz.prog.underlying ty=some (.slice e)) (hi:(Tryz.prog.info? e).map (fun i=>(i.zero,i.size,i.bytes))=some (some z,k,bytes)) (hzs:z.cells.size=k) (hk0:0 < k) (hb4:bytes≤4096)
 (A:Option Addr) (n c:Nat) (L:List α) (ds:List (Option Addr×Nat)) (hs:a.eval s= .slice A n c) (hown:zb2 f k e dat w F A n c L ds)
 (v: α) (d:Option Addr×Nat) (A2:Option Addr) (hx:a.eval x= .slice A2 1 1)
 (hr:Sl w A2 (f v d)) (hv:zbs w 0 d.1 (dat v).length d.2 (dat v)) (hvF:FIn F d.1) (hF:∀g,w.heap.size≤g→F g)
 (hb:n≤34359738)
 (h:∀A' c' w',zb2 f k e dat w' F A' (n+1) c' (L ++ [v]) (ds ++ [d])→ w.grownBy w' (Value.ownBlock (.slice A n c))→ (A'=A∨A'=some ⟨w.heap.size,0,none⟩)→ K (a.put o.dst (.slice A' (n+1) c')) w'):Oper.wp Tryz.prog o a w K Q:=by
 obtain⟨i0,hi0,hz0,hz1,hz2⟩:=info_parts hi;obtain⟨A',c',w',hr',h2,h3,h4⟩:=zax (P:=Tryz.prog) w 0 ty o.type e i0 _ k bytes hu hi0 hz0 hz1 hz2 hzs hk0 A n c _ hown.own A2 1 1 _ (by rw[hf];omega) hr (hone v d) (by unfold maxLen;omega) (by
  calc (n+1) * bytes≤(n+1) * 4096:=Nat.mul_le_mul_left _ hb4
   _≤_:=by omega) (Nat.zero_le _)
 unfold Oper.wp execOp;simp only[ho,resolve,invoke,builtin,Sem.run_bind,Sem.run_pure,Result.andThen_ok,List.map_toArray,List.map_cons,List.map_nil,hs,hx,hr'];exact h A' c' w' (hown.snoc hne h2 h3 h4 hF hv hvF) h3 h4
def SlE (w:World) (A:Option Addr) (L:List Ent):Prop:= ∀j E,L[j]? =some E→ ∃b off Aj cj,A=some ⟨b,off,none⟩∧ (w.cell? ⟨b,off+j * 11,none⟩=some (.int .i64 E.ix)∧ w.cell? ⟨b,off+j * 11+1,none⟩=some (.int .i64 E.sub)∧ w.cell? ⟨b,off+j * 11+2,none⟩=some (.string E.nm)∧ w.cell? ⟨b,off+j * 11+3,none⟩=some (.int .i64 E.ty)∧ w.cell? ⟨b,off+j * 11+4,none⟩=some (.int .i64 E.acc)∧ w.cell? ⟨b,off+j * 11+5,none⟩=some (.bool E.mp)∧ w.cell? ⟨b,off+j * 11+6,none⟩=some (.bool E.st)∧ w.cell? ⟨b,off+j * 11+7,none⟩=some (.int .i64 E.mx)∧ w.cell? ⟨b,off+j * 11+8,none⟩=some (.int .i64 E.lo)∧ w.cell? ⟨b,off+j * 11+9,none⟩=some (.int .i64 E.hi)∧ w.cell? ⟨b,off+j * 11+10,none⟩=some (.slice Aj E.df.length cj))∧ E.df.length≤cj∧Sl w Aj (E.df.map bv)
theorem SlE.below {w w':World}{A:Option Addr}{L:List Ent}(h:SlE w A L)(hb:Below w.heap.size w w'):SlE w' A L:=by
 intro j E hE;obtain⟨b,off,Aj,cj,hA,⟨c0,c1,c2,c3,c4,c5,c6,c7,c8,c9,c10⟩,hc,hs⟩:=h j E hE;have k:∀ {p v},w.cell? p=some v→w'.cell? p=some v:=fun hc=>(hb.cell (zal hc)).trans hc
 exact⟨b,off,Aj,cj,hA,⟨k c0,k c1,k c2,k c3,k c4,k c5,k c6,k c7,k c8,k c9,k c10⟩,hc,hs.below hb⟩
theorem SlE.two {w w':World}{A:Option Addr}{L:List Ent}(h:SlE w A L)(hb:Below w.heap.size w w'){j:Nat}{E:Ent}(hE:L[j]? =some E) :
 ∃b off Aj cj,A=some ⟨b,off,none⟩∧ (w'.cell? ⟨b,off+j * 11,none⟩=some (.int .i64 E.ix)∧ w'.cell? ⟨b,off+j * 11+1,none⟩=some (.int .i64 E.sub)∧ w'.cell? ⟨b,off+j * 11+2,none⟩=some (.string E.nm)∧ w'.cell? ⟨b,off+j * 11+3,none⟩=some (.int .i64 E.ty)∧ w'.cell? ⟨b,off+j * 11+4,none⟩=some (.int .i64 E.acc)∧ w'.cell? ⟨b,off+j * 11+5,none⟩=some (.bool E.mp)∧ w'.cell? ⟨b,off+j * 11+6,none⟩=some (.bool E.st)∧ w'.cell? ⟨b,off+j * 11+7,none⟩=some (.int .i64 E.mx)∧ w'.cell? ⟨b,off+j * 11+8,none⟩=some (.int .i64 E.lo)∧ w'.cell? ⟨b,off+j * 11+9,none⟩=some (.int .i64 E.hi)∧ w'.cell? ⟨b,off+j * 11+10,none⟩=some (.slice Aj E.df.length cj))∧ E.df.length≤cj∧Sl w Aj (E.df.map bv):=by
 obtain⟨b,off,Aj,cj,hA,⟨c0,c1,c2,c3,c4,c5,c6,c7,c8,c9,c10⟩,hc,hs⟩:=h j E hE;have k:∀ {p v},w.cell? p=some v→w'.cell? p=some v:=fun hc=>(hb.cell (zal hc)).trans hc
 exact⟨b,off,Aj,cj,hA,⟨k c0,k c1,k c2,k c3,k c4,k c5,k c6,k c7,k c8,k c9,k c10⟩,hc,hs⟩
theorem zhx {w w':World}{b o:Nat}{E:Ent}{A:Option Addr}{n c:Nat}(h:w.cell? ⟨b,o,none⟩=some (.int .i64 E.ix)∧ w.cell? ⟨b,o+1,none⟩=some (.int .i64 E.sub)∧ w.cell? ⟨b,o+2,none⟩=some (.string E.nm)∧ w.cell? ⟨b,o+3,none⟩=some (.int .i64 E.ty)∧ w.cell? ⟨b,o+4,none⟩=some (.int .i64 E.acc)∧ w.cell? ⟨b,o+5,none⟩=some (.bool E.mp)∧ w.cell? ⟨b,o+6,none⟩=some (.bool E.st)∧ w.cell? ⟨b,o+7,none⟩=some (.int .i64 E.mx)∧ w.cell? ⟨b,o+8,none⟩=some (.int .i64 E.lo)∧ w.cell? ⟨b,o+9,none⟩=some (.int .i64 E.hi)∧ w.cell? ⟨b,o+10,none⟩=some (.slice A n c))(hb:Below w.heap.size w w'):w'.cell? ⟨b,o,none⟩=some (.int .i64 E.ix)∧ w'.cell? ⟨b,o+1,none⟩=some (.int .i64 E.sub)∧ w'.cell? ⟨b,o+2,none⟩=some (.string E.nm)∧ w'.cell? ⟨b,o+3,none⟩=some (.int .i64 E.ty)∧ w'.cell? ⟨b,o+4,none⟩=some (.int .i64 E.acc)∧ w'.cell? ⟨b,o+5,none⟩=some (.bool E.mp)∧ w'.cell? ⟨b,o+6,none⟩=some (.bool E.st)∧ w'.cell? ⟨b,o+7,none⟩=some (.int .i64 E.mx)∧ w'.cell? ⟨b,o+8,none⟩=some (.int .i64 E.lo)∧ w'.cell? ⟨b,o+9,none⟩=some (.int .i64 E.hi)∧ w'.cell? ⟨b,o+10,none⟩=some (.slice A n c):=by
 obtain⟨c0,c1,c2,c3,c4,c5,c6,c7,c8,c9,c10⟩:=h;have k:∀ {p v},w.cell? p=some v→w'.cell? p=some v:=fun hc=>(hb.cell (zal hc)).trans hc
 exact⟨k c0,k c1,k c2,k c3,k c4,k c5,k c6,k c7,k c8,k c9,k c10⟩
theorem zhy {w w':World}(h:Below w.drew.heap.size w.drew w'):Below w.heap.size w w':=⟨h.os,h.tape,h.output,h.size,h.block⟩
theorem zhz {w:World}{b:Nat}{E:Ent}{A:Option Addr}{n c:Nat}(h:Blk w b 90 (entV E A n c)):w.cell? ⟨b,0,none⟩=some (.int .i64 E.ix)∧ w.cell? ⟨b,1,none⟩=some (.int .i64 E.sub)∧ w.cell? ⟨b,2,none⟩=some (.string E.nm)∧ w.cell? ⟨b,3,none⟩=some (.int .i64 E.ty)∧ w.cell? ⟨b,4,none⟩=some (.int .i64 E.acc)∧ w.cell? ⟨b,5,none⟩=some (.bool E.mp)∧ w.cell? ⟨b,6,none⟩=some (.bool E.st)∧ w.cell? ⟨b,7,none⟩=some (.int .i64 E.mx)∧ w.cell? ⟨b,8,none⟩=some (.int .i64 E.lo)∧ w.cell? ⟨b,9,none⟩=some (.int .i64 E.hi)∧ w.cell? ⟨b,10,none⟩=some (.slice A n c):=
 ⟨h.cell 0 rfl,h.cell 1 rfl,h.cell 2 rfl,h.cell 3 rfl,h.cell 4 rfl,h.cell 5 rfl,h.cell 6 rfl,h.cell 7 rfl,h.cell 8 rfl,h.cell 9 rfl,h.cell 10 rfl⟩
theorem zh0 {g H:Nat}{A':Option Addr}(h:A'=some (⟨g,0,none⟩:Addr)∨ A'=some ⟨H,0,none⟩):∃g',A'=some ⟨g',0,none⟩:=h.elim (fun h=>⟨g,h⟩) (fun h=>⟨H,h⟩)
def svF (v:SV) (d:Option Addr×Nat):List Value:=[.int .i64 v.ix,.int .i64 v.sub,.slice d.1 v.data.length d.2]
theorem zh1 (v:SV)(d:Option Addr×Nat):(svF v d).length=3:=rfl
theorem zh2 (v:SV)(d:Option Addr×Nat):∀u ∈ svF v d,u.oneCell'=true:=by
 intro u hu;simp only[svF,List.mem_cons,List.not_mem_nil,or_false] at hu;rcases hu with rfl | rfl | rfl<;>rfl
theorem zh3:(Tryz.prog.info? 46).map (fun i=>(i.zero,i.size,i.bytes))=some (some (.agg #[.int .i64 0,.int .i64 0,.slice none 0 0]),3,40):=by kernel_rfl
abbrev OwnSV (w:World) (F:Nat→Prop) (A:Option Addr) (n c:Nat) (L:List SV) (ds:List (Option Addr×Nat)):Prop:=zb2 svF 3 46 SV.data w F A n c L ds
def zh4 (ds:List (Option Addr×Nat)):Prop:=ds.Pairwise (fun a b=> ∀g,a.1=some (⟨g,0,none⟩:Addr)→ b.1≠some ⟨g,0,none⟩)
theorem zh4.nil:zh4 []:=List.Pairwise.nil
theorem zh4.snoc {ds:List (Option Addr×Nat)}(h:zh4 ds){d:Option Addr×Nat}{N:Nat}(h1:∀e ∈ ds,∀g,e.1=some (⟨g,0,none⟩:Addr)→ g < N)(h2:FIn (fun g=>N≤g) d.1):zh4 (ds ++ [d]):=by
 unfold zh4;rw[List.pairwise_append];refine⟨h,List.pairwise_singleton _ _,?_⟩;intro a ha b hb g hg he;simp at hb;subst hb
 have:=h1 a ha g hg
 have:=h2 g he
 omega
section
variable {w:World} {F:Nat→Prop} {A:Option Addr} {n c:Nat} {L:List SV} {ds:List (Option Addr×Nat)}
theorem zb2.dlt {α:Type}{f: α→Option Addr×Nat→List Value}{k:Nat}{e:TypeId}{dat: α→List UInt8}{L:List α}(h:zb2 f k e dat w F A n c L ds):∀d ∈ ds,∀g,d.1=some (⟨g,0,none⟩:Addr)→ g < w.heap.size:=by
 intro d hd g hg;obtain⟨j,hj,rfl⟩:=List.getElem_of_mem hd;obtain⟨v,hv⟩:∃v,L[j]? =some v:=⟨L[j]'(by rw[←h.hd];exact hj),List.getElem?_eq_getElem _⟩;exact ((h.data j v _ hv (List.getElem?_eq_getElem hj)).1.own.fin g hg).2
theorem zb2.slV (h:OwnSV w F A n c L ds):SlV w A L:=by
 intro j v hv;obtain⟨d,hd,hO,_⟩:=h.elem hv;obtain⟨g,hA,_,hc⟩:=h.cells zh1 hv hd (by omega);exact⟨g,0,d.1,d.2,hA,by rw[Nat.zero_add];exact hc 0 _ rfl,by rw[Nat.zero_add];exact hc 1 _ rfl,by rw[Nat.zero_add];exact hc 2 _ rfl,hO.own.le,hO.sl⟩
end
section
variable {α:Type} {f: α→Option Addr×Nat→List Value} {k:Nat} {e:TypeId} {dat: α→List UInt8} {w w':World} {F:Nat→Prop} {n c:Nat} {A:Option Addr} {L:List α} {ds:List (Option Addr×Nat)}
theorem zb2.grownT (h:zb2 f k e dat w F A n c L ds){B2 e2 s2 n2 c2:Nat}{A2:Option Addr}{xs2:List Value}(hg:w.grownBy w' (Value.ownBlock (.slice A2 n2 c2)))(h2:Own w B2 e2 s2 A2 n2 c2 xs2)(h1:e≠e2)(h3:5≠e2):zb2 f k e dat w' F A n c L ds:=
 ⟨h.hn,h.hd,h.own.grown hg (zbx h.own h2 h1),h.inF,fun j v d hv hd=>⟨⟨(h.data j v d hv hd).1.hn,(h.data j v d hv hd).1.own.grown hg (zbx (h.data j v d hv hd).1.own h2 h3)⟩,(h.data j v d hv hd).2⟩⟩
theorem zh5 {B e' s' n' c':Nat}{A':Option Addr}{xs':List Value}{g:Nat}{t:TypeId}{cs:Array Value}(h':Own w B e' s' A' n' c' xs')(h:Blk w g t cs)(hne:t≠e'):∀g',A'=some (⟨g',0,none⟩:Addr)→ some g'≠some g:=by
 rintro g' rfl hg
 have:=zby h h' hne
 simp[Value.ownBlock] at this;injection hg with hg
 exact this hg.symm
theorem zb2.setT (h:zb2 f k e dat w F A n c L ds){g:Nat}{t:TypeId}{cs:Array Value}(hB:Blk w g t cs)(h1:t≠e)(h3:t≠5)(i:Nat)(u:Value):zb2 f k e dat (w.setCell ⟨g,i,none⟩ u) F A n c L ds:=by
 have hg:w.grownBy (w.setCell ⟨g,i,none⟩ u) (some g):=za3 (World.grownBy.refl _ _) (.inl rfl) i u;exact⟨h.hn,h.hd,h.own.grown hg (zh5 h.own hB h1),h.inF,fun j v d hv hd=>⟨⟨(h.data j v d hv hd).1.hn,(h.data j v d hv hd).1.own.grown hg (zh5 (h.data j v d hv hd).1.own hB h3)⟩,(h.data j v d hv hd).2⟩⟩
theorem zb2.empty {g:Nat}(hB:Blk w g e #[])(hF:F g):zb2 f k e dat w F (some ⟨g,0,none⟩) 0 0 [] []:=
 ⟨rfl,rfl,⟨by simp[cellsG],.inr ⟨g,0,#[],rfl,Nat.zero_le _,hB,Nat.le_refl _,by unfold maxLen;omega,by simp,by simp[cellsG]⟩⟩,fun g' hg=>by injection hg with hg;injection hg with hg;subst hg;exact hF,by intro j v d h;simp at h⟩
end
def svL (L:List Ent) (V:List (List UInt8)):List SV:=List.zipWith (fun E v=>⟨E.ix,E.sub,v⟩) L V
theorem zh6 (L:List Ent)(V:List (List UInt8))(h:V.length=L.length):(svL L V).length=L.length:=by simp[svL,h]
theorem zh7 {L:List Ent}{V:List (List UInt8)}{k:Nat}{E:Ent}{v:List UInt8}(hE:L[k]? =some E)(hv:V[k]? =some v):(svL L V)[k]? =some ⟨E.ix,E.sub,v⟩:=by simp[svL,List.getElem?_zipWith,hE,hv]
theorem zh8 {α:Type}{L:List α}{k:Nat}{x: α}(h:L[k]? =some x):L.take (k+1)=L.take k ++ [x]:=by
 obtain⟨hk,rfl⟩:=List.getElem?_eq_some_iff.1 h;exact List.take_succ_eq_append_getElem hk
end
section
open Go.RowKit
def MsR (w:World) (N:Nat) (X:Nat→Prop) (As:Option Addr) (ns cs:Nat) (l:List Ms):Prop:=
 (l= []∧ As=none∧ns=0∧cs=0)∨ ∃M g A n c,l= [M]∧ As=some ⟨g,0,none⟩∧ ns=1∧cs=1∧N≤g∧Blk w g 95 (msV M A n c)∧ zbs w N A n c M.data∧FIn X A
section
variable {F:Nat→Prop} {pd gl n cl cv:Nat} {Av:Option Addr} {L:List Ent} {V:List (List UInt8)} {ds es:List (Option Addr×Nat)}
theorem zh9 {w w':World}{A:Option Addr}{xs:List Value}(h:Sl w A xs)(hk:∀ad,A=some ad→w'.heap[ad.block]? =w.heap[ad.block]?):Sl w' A xs:=by
 intro j u hu;obtain⟨ad,rfl,hc⟩:=h j u hu;refine⟨ad,rfl,?_⟩;rw[←hc];unfold World.cell?;rw[show (ad.add j).block=ad.block by unfold Addr.add;split<;>rfl,hk ad rfl]
theorem zia {w:World}{g q:Nat}(hne:q≠g)(As:Option Addr)(ns cs:Nat)(O:SegO)(A:Option Addr)(n c:Nat):(putO w g As ns cs O A n c).heap[q]? =w.heap[q]? :=by
 unfold putO;rw[Below.heap_setCell _ _ _ _ hne,Below.heap_setCell _ _ _ _ hne,Below.heap_setCell _ _ _ _ hne,Below.heap_setCell _ _ _ _ hne,Below.heap_setCell _ _ _ _ hne]
theorem zib (w:World)(g:Nat)(As:Option Addr)(ns cs:Nat)(O:SegO)(A:Option Addr)(n c:Nat):(putO w g As ns cs O A n c).heap.size=w.heap.size:=by
 unfold putO;simp[World.setCell]
theorem zic (L:List Ent)(ix sub:Int):∃k:Nat,getC L ix sub=(k:Int):=⟨(getC L ix sub).toNat,by
 have:0≤getC L ix sub:=by unfold getC codeL readE;(repeat' split)<;> omega
 omega⟩
end
end
section
def c16Bit (r b:Nat):Nat:=if r / 32768=b then r * 2 % 65536 else (r * 2 % 65536) ^^^ 4129
def c16Bits (r c:Nat):Nat→Nat
 | 0=>r
 | k+1=>c16Bit (c16Bits r c k) (c / 2 ^ (7 - k) % 2)
def c16L (r:Nat) (l:List UInt8):Nat:=l.foldl (fun r c=>c16Bits r c.toNat 8) r
def U16 (r:Nat):Prop:=r < 65536
theorem U16.xor {a b:Nat}(ha:U16 a)(hb:U16 b):U16 (a ^^^ b):=Nat.xor_lt_two_pow (n:=16) ha hb
theorem zid (r b:Nat):U16 (c16Bit r b):=by
 unfold c16Bit;split
 · exact Nat.mod_lt _ (by decide)
 · exact U16.xor (Nat.mod_lt _ (by decide)) (by unfold U16;omega)
theorem zie {r:Nat}(h:U16 r)(c k:Nat):U16 (c16Bits r c k):=by
 cases k with
 | zero=>exact h
 | succ k=>exact zid _ _
theorem zif {r:Nat}(h:U16 r)(l:List UInt8):U16 (c16L r l):=by
 induction l generalizing r with
 | nil=>exact h
 | cons c l ih=>exact ih (zie h _ _)
theorem zig (r:Nat)(l:List UInt8)(c:UInt8):c16L r (l ++ [c])=c16Bits (c16L r l) c.toNat 8:=by simp[c16L]
theorem zih (r:Nat)(l:List UInt8)(k:Nat)(h:k < l.length):c16L r (l.take (k+1))=c16Bits (c16L r (l.take k)) (l[k]).toNat 8:=by
 rw[List.take_succ_eq_append_getElem h,zig]
def sum16L (l:List UInt8):Nat:=c16L 0 l
end
section
structure BlkS where
 mo:Int
 sz:Int
 nx:Int
 ha:Int
 ta:Int
 ro:Int
 st:Int
 ix:Int
 sub:Int
 b:List UInt8
 sm:Bool
def blkZ:BlkS:=⟨0,0,0,0,0,0,0,0,0,[],false⟩
def blkIdle (S:BlkS):BlkS:={ S with st:=0 }
def bAbortL (S:BlkS) (code:Nat):List Ms:=if S.st=0 then [] else [abM S.ix S.sub code]
def bAnswerS (S:BlkS):BlkS:=if S.st=3 then { S with st:=0 } else S
def bAnswerL (S:BlkS) (code:Nat):List Ms:=if S.st=3 then (if code≠0 then [abM S.ix S.sub code] else [okM 18 0 0 false]) else []
def bokM (ix sub:Int):Ms:=⟨16,ix,sub,false,false,true,false,0,0,[],0,16,0,0⟩
def ackM (sq:Int):Ms:=⟨17,0,0,false,false,false,false,0,0,[],sq,16,0,0⟩
def bupM (ix sub:Int) (size:Nat):Ms:=⟨19,ix,sub,false,false,true,true,size,0,[],0,0,0,0⟩
def bendM (em:Int) (sum:Nat):Ms:=⟨20,0,0,false,false,false,false,0,0,[],0,0,em,sum⟩
def bsegM (sq:Int) (la:Bool) (data:List UInt8):Ms:=⟨21,0,0,false,la,false,false,0,0,data,sq,0,0,0⟩
def bdcode (L:List Ent) (M:Ms):Int:=if smayC L M.ix M.sub=0∧M.sz=true then fitsC (entK L (locK L M.ix M.sub)) M.size else smayC L M.ix M.sub
def bdownS (L:List Ent) (S:BlkS) (M:Ms):BlkS:=
 if bdcode L M≠0 then S else ⟨mostE (entK L (locK L M.ix M.sub)),(if M.sz=true then M.size else -1),1,S.ha,S.ta,S.ro,1,M.ix,M.sub,[],M.cr⟩
def bdownO (L:List Ent) (M:Ms):SegO:=if bdcode L M≠0 then outM (abM M.ix M.sub (bdcode L M).toNat) else outM (bokM M.ix M.sub)
def btake (S:BlkS) (M:Ms):BlkS:=if M.sq=S.nx then { S with st:=if M.la=true then 2 else 1,b:=S.b ++ M.data,nx:=S.nx+1 } else S
def bpcode (S:BlkS) (M:Ms):Int:=if 16 < M.sq then 84148227 else if M.sq=S.nx∧S.mo+7 < ((S.b ++ M.data).length:Int) then 101122066 else 0
def bpartS (S:BlkS) (M:Ms):BlkS:=
 if 16 < M.sq then { S with st:=0 } else if bpcode S M≠0 then { btake S M with st:=0 } else
 if M.sq < 16∧M.la=false then btake S M else { btake S M with nx:=1 }
def bpartO (S:BlkS) (M:Ms):SegO:=
 if bpcode S M≠0 then outL (bAbortL S (bpcode S M).toNat) else
 if M.sq < 16∧M.la=false then outZ else outM (ackM ((btake S M).nx - 1))
def bendB (S:BlkS) (M:Ms):List UInt8:=S.b.take (S.b.length - M.em.toNat)
def becode (S:BlkS) (M:Ms):Int:=
 if S.sm=true∧sum16L (bendB S M)≠ M.sum then 84148228 else if S.sz≠ -1∧S.sz≠((bendB S M).length:Int) then 101122064 else if S.mo < ((bendB S M).length:Int) then 101122066 else 0
def bendS (S:BlkS) (M:Ms):BlkS:=if becode S M≠0 then { S with st:=0 } else { S with st:=3 }
def bendO (S:BlkS) (M:Ms):SegO:=if becode S M≠0 then outL (bAbortL S (becode S M).toNat) else ⟨[],true,S.ix,S.sub,bendB S M⟩
def bucode (L:List Ent) (M:Ms):Int:=if M.bl=0 then 84148226 else getC L M.ix M.sub
def bupS (L:List Ent) (V:List (List UInt8)) (S:BlkS) (M:Ms):BlkS:=
 if bucode L M≠0 then S else ⟨S.mo,S.sz,S.nx,0,M.bl,0,4,M.ix,M.sub,getB L V M.ix M.sub,M.cr⟩
def bupO (L:List Ent) (V:List (List UInt8)) (M:Ms):SegO:=if bucode L M≠0 then outM (abM M.ix M.sub (bucode L M).toNat) else outM (bupM M.ix M.sub (getB L V M.ix M.sub).length)
def btotal (b:List UInt8):Nat:=max 1 ((b.length+6) / 7)
theorem zii (B:List UInt8)(n:Nat)(hn:n=B.length):(btotal B:Int)=if ((n:Int)+6) / 7 < 1 then 1 else ((n:Int)+6) / 7:=by
 unfold btotal;rw[←hn];split<;>omega
def bpiece (b:List UInt8) (k:Nat):List UInt8:=((b.drop (7 * k)).take 7) ++ List.replicate (7 - (b.length - 7 * k)) 0
def browN (S:BlkS):Int:=min S.ta ((btotal S.b:Int) - S.ha)
def bgiveS (S:BlkS):BlkS:={ S with st:=5,ro:=browN S }
def bgiveL (S:BlkS):List Ms:=(List.range (browN S).toNat).map fun (i:Nat)=> bsegM ((i:Int)+1) (decide (S.ha+i+1=(btotal S.b:Int))) (bpiece S.b (S.ha.toNat+i))
def backS1 (S:BlkS) (M:Ms):BlkS:={ S with ha:=S.ha+M.sq,ta:=M.bl }
def bacode (S:BlkS) (M:Ms):Int:=if S.ro < M.sq then 84148227 else if M.bl=0 then 84148226 else 0
def backS (S:BlkS) (M:Ms):BlkS:=
 if bacode S M≠0 then { S with st:=0 } else if (backS1 S M).ha < btotal S.b then bgiveS (backS1 S M) else { backS1 S M with st:=6 }
def backO (S:BlkS) (M:Ms):SegO:=
 if bacode S M≠0 then outL (bAbortL S (bacode S M).toNat) else if (backS1 S M).ha < btotal S.b then outL (bgiveL (backS1 S M)) else
 outM (bendM (7 * (btotal S.b:Int) - S.b.length) (if S.sm=true then sum16L S.b else 0))
end
end Go.Proofs.YtkkpjbjmhaecjaaGreat
