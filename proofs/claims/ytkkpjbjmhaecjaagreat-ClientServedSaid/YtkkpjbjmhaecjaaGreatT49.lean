/- None -/
import Derived.Test.YtkkpjbjmhaecjaaGreatT48
import Derived.ArgAppend
import Derived.Test.YtkkpjbjmhaecjaaGreatT38
namespace Go.Proofs.YtkkpjbjmhaecjaaGreat
set_option linter.all false
set_option maxHeartbeats 8000000
set_option maxRecDepth 100000
section
structure zyf (S:CliS) (k:Nat):Prop where
 bl:S.b.length≤2000+7 * k
 dl:S.data.length≤2000+7 * k
 at_:0≤S.at_∧S.at_≤3000+1200 * k
 ro:0≤S.ro∧S.ro≤1000
theorem zyf.mono {S:CliS}{k:Nat}(h:zyf S k):zyf S (k+1):=by
 obtain⟨h1,h2,⟨h3,h4⟩,h5⟩:=h;exact⟨by omega,by omega,⟨h3,by omega⟩,h5⟩
theorem zyg {S:CliS}{k:Nat}(h:zyf S k)(c:Nat)(b:List UInt8)(hb:b.length≤2000+7 * k):zyf (cEnd S c b) k:=⟨h.bl,hb,h.at_,h.ro⟩
theorem zyh {S:CliS}{k:Nat}(h:zyf S (k+1)):zyf (cSegS S) (k+1):=by
 have h0:=h;obtain⟨hb,hd,⟨ha1,ha2⟩,hr⟩:=h;unfold cSegS;split
 · exact zyg h0 _ _ (by simp)
 · refine⟨hb,hd,?_,hr⟩;show 0≤(if cLa S=true then cTo S+1 else cTo S)∧ (if cLa S=true then cTo S+1 else cTo S)≤ 3000+1200 * ((k+1:Nat):Int);unfold cTo;split<;>omega
theorem zyi {S:CliS}{k:Nat}(h:zyf S k)(most:Int)(hm:0≤most∧most≤1000):zyf (cRowsS S most) k:=by
 obtain⟨hb,hd,ha,hr⟩:=h;unfold cRowsS;split
 · exact⟨hb,hd,ha,hr⟩
 · refine⟨hb,hd,ha,?_⟩;show 0≤cRowN S most∧cRowN S most≤1000;unfold cRowN;omega
theorem zyj {S:CliS}{k:Nat}{b:List UInt8}(h:zyf S k)(hb:b.length≤7):(S.b ++ b).length≤2000+7 * (k+1):=by
 have:=h.bl
 rw[List.length_append];omega
theorem zyk {S:CliS}{M:Ms}{k:Nat}(h:zyf S k)(hM:MsB M):zyf (cStepS S M) (k+1):=by
 have h1:=h.mono;have hAd:=zyj h hM.dl;obtain⟨hb,hd,⟨ha1,ha2⟩,hr1,hr2⟩:=h;obtain⟨_,m1,⟨m2,m3⟩,m4,⟨m5,m6⟩,⟨m7,m8⟩,m9⟩:=hM;have hap:zyf (cPcA S M) (k+1):=⟨hAd,h1.dl,h1.at_,h1.ro⟩;have htk:zyf (cTkA S M) (k+1):=by
  unfold cTkA;split
  · refine⟨hAd,h1.dl,h1.at_,?_⟩;show 0≤S.ro+1∧S.ro+1≤1000;omega
  · exact h1
 unfold cStepS;split
 · exact zyh h1
 split
 · exact zyh ⟨h1.bl,h1.dl,h1.at_,h1.ro⟩
 split
 · split
   · exact zyg (S:=cExp S M) ⟨h1.bl,h1.dl,h1.at_,h1.ro⟩ _ _ (by omega)
   · exact⟨h1.bl,h1.dl,h1.at_,h1.ro⟩
 split
 · unfold cPcS;split
   · exact⟨hap.bl,hap.dl,hap.at_,hap.ro⟩
   split
   · exact zyg hap _ _ (by simp)
   · exact zyg (S:=cPcA S M) hap _ _ hAd
 split
 · exact zyi h1 _ ⟨m5,m6⟩
 split
 · refine zyi (S:={ S with at_:=S.at_+M.sq }) ⟨h1.bl,h1.dl,?_,h1.ro⟩ _ ⟨m5,m6⟩;show 0≤S.at_+M.sq∧S.at_+M.sq≤3000+1200 * ((k+1:Nat):Int);omega
 split
 · exact⟨h1.bl,h1.dl,h1.at_,h1.ro⟩
 split
 · unfold cTkS;split
   · exact htk
   · exact⟨htk.bl,htk.dl,htk.at_,⟨Int.le_refl _,by show (0:Int)≤ 1000;decide⟩⟩
 split
 · unfold cLsS;split
   · exact zyg h1 _ _ (by simp)
   · exact zyg h1 _ _ (by unfold cLsB;rw[List.length_take];omega)
 · exact zyg h1 _ _ (by simp)
end
section
open Go.RowKit Go.Maps
theorem zyl {G:Nat→Prop}{p m:Nat}(S:CliS)(ix sub mode:Int)(b:List UInt8)(A:Option Addr)(n c:Nat)(w:World)(hS:CV_ w G p m S)(hw:0≤S.wk∧S.wk≤21)(hn:n=b.length)(hl:b.length≤100000)(hs:∀W',zd0 (fun q=>q=p∨q=m∨G q) w W'→Sl W' A (b.map bv)) :
 Calls Tryz.prog 30 #[.pointer (some ⟨p,0,none⟩),.int .i64 ix,.int .i64 sub,.slice A n c,.int .i64 mode] w (zw3 w G p m (cWriteS S ix sub b mode) (cWriteL S ix sub b mode)):=by
 by_cases hb:cBegB ix sub mode=false
 · exact zx7 S ix sub mode b A n c w hS hb
 · have hb':cBegB ix sub mode=true:=by
    cases h:cBegB ix sub mode
    · exact absurd h hb
    · rfl
   obtain⟨_,_,_,_,h5,h6⟩:=zqx hb;have hm:mode=0∨mode=1∨mode=2:=by omega
   rcases hm with rfl | rfl | rfl
   · by_cases hq:b.length=0
     · exact zya S ix sub b A n c w hS hw hn hl hq hb' hs
     by_cases hq4:4 < b.length
     · exact zyb S ix sub b A n c w hS hw hn hl hq4 hb' hs
     · exact zx5 S ix sub b A n c w hS hw hn ⟨by omega,by omega⟩ hb' hs
   · exact zx9 S ix sub b A n c w hS hw hn hl hb' hs
   · exact zyc S ix sub b A n c w hS hw hn hl hb' hs
theorem zym {G:Nat→Prop}{p m:Nat}(S:CliS)(ix sub mode:Int)(w:World)(hS:CV_ w G p m S)(hw:0≤S.wk∧S.wk≤21) :
 Calls Tryz.prog 33 #[.pointer (some ⟨p,0,none⟩),.int .i64 ix,.int .i64 sub,.int .i64 mode] w (zw3 w G p m (cReadS S ix sub mode) (cReadL S ix sub mode)):=by
 by_cases hb:cBegB ix sub mode=false
 · exact zx8 S ix sub mode w hS hb
 · have hb':cBegB ix sub mode=true:=by
    cases h:cBegB ix sub mode
    · exact absurd h hb
    · rfl
   by_cases hm:mode=2
   · subst hm;exact zyd S ix sub w hS hw hb'
   · exact zye S ix sub mode w hS hw hm hb'
end
section
open Go.RowKit
structure QFr (w:World) (F:Nat→Prop) (A:Option Addr) (n c:Nat) (L:List Frm) (ds:List (Option Addr×Nat)):Prop where
 hn:n=L.length
 hd:ds.length=L.length
 le:n≤c
 cm:c≤maxLen
 row:c=0∨ ∃g pre post,A=some ⟨g,pre.length,none⟩∧ Blk w g 69 (pre ++ cellsG frF L ds ++ post).toArray∧post.length+n * 3=c * 3∧F g
 data:∀(j:Nat) (v:Frm) (d:Option Addr×Nat),L[j]? =some v→ds[j]? =some d→zdv w 0 d.1 v.data.length d.2 v.data∧FIn F d.1
section
variable {w w':World} {F G:Nat→Prop} {A:Option Addr} {n c:Nat} {L:List Frm} {ds:List (Option Addr×Nat)}
theorem QFr.of (h:zd8 frF 3 69 Frm.data w F A n c L ds):QFr w F A n c L ds:=by
 refine⟨h.hn,h.hd,h.own.le,h.own.capLe,?_,h.data⟩;rcases h.own.2 with ⟨hv,h0⟩ | ⟨g,cap,cur,hv,hb,hg,hn,hm,hs,ht⟩
 · injection hv with _ _ hc
   exact .inl hc
 · injection hv with hA _ hc
   subst hc;right;refine⟨g,[],cur.toList.drop (n * 3),hA,?_,?_,h.inF g hA⟩
   · show w.heap[g]? =_;rw[hg,List.nil_append,←ht,List.take_append_drop]
   · rw[List.length_drop,Array.length_toList,hs]
     have:=Nat.mul_le_mul_right 3 hn
     omega
theorem QFr.keep (h:QFr w F A n c L ds)(hk:∀g,F g→g < w.heap.size→w'.heap[g]? =w.heap[g]?):QFr w' F A n c L ds:=by
 refine⟨h.hn,h.hd,h.le,h.cm,?_,fun j v d h1 h2=>⟨(h.data j v d h1 h2).1.keepF (h.data j v d h1 h2).2 hk,(h.data j v d h1 h2).2⟩⟩;rcases h.row with h0 | ⟨g,pre,post,hA,hB,hp,hF⟩
 · exact .inl h0
 · exact .inr ⟨g,pre,post,hA,(hk g hF hB.lt).trans hB,hp,hF⟩
theorem QFr.below (h:QFr w F A n c L ds)(hb:Below w.heap.size w w'):QFr w' F A n c L ds:=h.keep fun g _ hlt=>hb.block g hlt
theorem QFr.mono (h:QFr w F A n c L ds)(hG:∀g,g < w.heap.size→F g→G g):QFr w G A n c L ds:=by
 refine⟨h.hn,h.hd,h.le,h.cm,?_,fun j v d h1 h2=>⟨(h.data j v d h1 h2).1,fun g hg=>hG g ((h.data j v d h1 h2).1.own.fin g hg).2 ((h.data j v d h1 h2).2 g hg)⟩⟩;rcases h.row with h0 | ⟨g,pre,post,hA,hB,hp,hF⟩
 · exact .inl h0
 · exact .inr ⟨g,pre,post,hA,hB,hp,hG g hB.lt hF⟩
theorem QFr.head {f:Frm}{d:Option Addr×Nat}(h:QFr w F A n c (f :: L) (d :: ds)):∃g off,A=some ⟨g,off,none⟩∧ g < w.heap.size∧F g∧w.cell? ⟨g,off,none⟩=some (.int .i64 f.id)∧ w.cell? ⟨g,off+1,none⟩=some (.bool f.re)∧ w.cell? ⟨g,off+2,none⟩=some (.slice d.1 f.data.length d.2)∧ zdv w 0 d.1 f.data.length d.2 f.data∧FIn F d.1:=by
 have hn:=h.hn;have hle:=h.le;rcases h.row with h0 | ⟨g,pre,post,hA,hB,hp,hF⟩
 · simp at hn;omega
 · have hc:∀i u,(frF f d)[i]? =some u→w.cell? ⟨g,pre.length+i,none⟩=some u:=by
    intro i u hu;refine hB.cell _ ?_;rw[List.getElem?_toArray,List.append_assoc,List.getElem?_append_right (by omega),Nat.add_sub_cancel_left];simp only[cellsG];rw[List.append_assoc,List.getElem?_append_left (List.getElem?_eq_some_iff.1 hu).1];exact hu
   have hd:=h.data 0 f d rfl rfl;exact⟨g,pre.length,hA,hB.lt,hF,hc 0 _ rfl,hc 1 _ rfl,hc 2 _ rfl,hd.1,hd.2⟩
theorem QFr.tail {f:Frm}{d:Option Addr×Nat}(h:QFr w F A n c (f :: L) (d :: ds)):QFr w F (cutA A c 1 3) (n - 1) (c - 1) L ds:=by
 have hn:=h.hn;have hle:=h.le;simp at hn;refine⟨by omega,by have:=h.hd;simp at this;exact this,by omega,by have:=h.cm;omega,?_,fun j v e h1 h2=>h.data (j+1) v e (by simpa using h1) (by simpa using h2)⟩;rcases h.row with h0 | ⟨g,pre,post,hA,hB,hp,hF⟩
 · omega
 · by_cases h1:c=1
   · exact .inl (by omega)
   · right;refine⟨g,pre ++ frF f d,post,?_,?_,by omega,hF⟩
     · subst hA;unfold cutA;rw[if_neg h1,List.length_append]
       rfl
     · simpa [cellsG,List.append_assoc] using hB
end
theorem zyn {w:World}{F F2 G:Nat→Prop}{A:Option Addr}{n c:Nat}{L:List Frm}{ds:List (Option Addr×Nat)}(ty:TypeId)(hown:QFr w F A n c L ds)
 (A2:Option Addr) (n2 c2:Nat) (L2:List Frm) (ds2:List (Option Addr×Nat)) (hown2:zd8 frF 3 69 Frm.data w F2 A2 n2 c2 L2 ds2)
 (hF:∀g,w.heap.size≤g→G g) (hFG:∀g,g < w.heap.size→F g→G g) (hFG2:∀g,g < w.heap.size→F2 g→G g)
 (hb:n+n2≤34359738) :
 ∃A' c' w',(Builtin.append_ #[81,81] ty #[.slice A n c,.slice A2 n2 c2]).run Tryz.prog w= .ok (.slice A' (n+n2) c') w'∧QFr w' G A' (n+n2) c' (L ++ L2) (ds ++ ds2)∧ zd0 F w w':=by
 obtain⟨i0,hi0,hz0,hz1,hz2⟩:=info_parts zg1;have hl2:=zd6 zgz L2 ds2 hown2.hd;rw[←hown2.hn] at hl2;have hl1:=zd6 zgz L ds hown.hd;rw[←hown.hn] at hl1;have hle:=hown.le;have hcm:=hown.cm;have hmx:n+n2≤maxLen:=by unfold maxLen;omega
 have dcat:∀ {w':World},(∀(m:Nat) (dd:Option Addr×Nat) (l:List UInt8),dd ∈ ds ++ ds2→zdv w 0 dd.1 m dd.2 l→zdv w' 0 dd.1 m dd.2 l)→ ∀(j:Nat) (v:Frm) (d:Option Addr×Nat),(L ++ L2)[j]? =some v→(ds ++ ds2)[j]? =some d→zdv w' 0 d.1 v.data.length d.2 v.data∧FIn G d.1:=by
  intro w' keep j u d' hu hd';have hm:=List.mem_of_getElem? hd';rcases Nat.lt_or_ge j L.length with hj | hj
  · rw[List.getElem?_append_left hj] at hu;rw[List.getElem?_append_left (by rw[hown.hd];exact hj)] at hd'
    have:=hown.data j u d' hu hd'
    exact⟨keep _ _ _ hm this.1,fun g hg=>hFG g (this.1.own.fin g hg).2 (this.2 g hg)⟩
  · rw[List.getElem?_append_right hj] at hu;rw[List.getElem?_append_right (by rw[hown.hd];exact hj),hown.hd] at hd'
    have:=hown2.data _ u d' hu hd'
    exact⟨keep _ _ _ hm this.1,fun g hg=>hFG2 g (this.1.own.fin g hg).2 (this.2 g hg)⟩
 have hdl:(ds ++ ds2).length=(L ++ L2).length:=by simp[hown.hd,hown2.hd]
 have hnl:n+n2=(L ++ L2).length:=by rw[hown.hn,hown2.hn];simp
 have grown:∀(old:Nat),old < n+n2→QFr (w.drew.alloc (.cells ((cellsG frF L ds).toArray ++ (cellsG frF L2 ds2).toArray ++ Builtin.zeroCells (#[.int .i64 0,.bool false,.slice none 0 0]:Array Value) (grownCap w (n+n2) old 69 - (n+n2))) 69)) G (some ⟨w.heap.size,0,none⟩) (n+n2) (grownCap w (n+n2) old 69) (L ++ L2) (ds ++ ds2):=by
  intro old ho;have hge:=grownCap_ge w (n+n2) old 69;have hcm':grownCap w (n+n2) old 69≤maxLen:=grownCap_le_maxLen w (n+n2) old 69 hmx;refine⟨hnl,hdl,hge,hcm',.inr ⟨w.heap.size,[],(Builtin.zeroCells (#[.int .i64 0,.bool false,.slice none 0 0]:Array Value) (grownCap w (n+n2) old 69 - (n+n2))).toList,rfl,?_,?_,hF _ (Nat.le_refl _)⟩,dcat (fun m dd l _ hO=>⟨hO.hn,(hO.own.drew).alloc _⟩)⟩
  · have hb:=Blk.new w.drew 69 ((cellsG frF L ds).toArray ++ (cellsG frF L2 ds2).toArray ++ Builtin.zeroCells (#[.int .i64 0,.bool false,.slice none 0 0]:Array Value) (grownCap w (n+n2) old 69 - (n+n2)));rw[zuy L ds L2 ds2 hown.hd,List.nil_append];have e:(cellsG frF L ds ++ cellsG frF L2 ds2 ++ (Builtin.zeroCells (#[.int .i64 0,.bool false,.slice none 0 0]:Array Value) (grownCap w (n+n2) old 69 - (n+n2))).toList).toArray=(cellsG frF L ds).toArray ++ (cellsG frF L2 ds2).toArray ++ Builtin.zeroCells (#[.int .i64 0,.bool false,.slice none 0 0]:Array Value) (grownCap w (n+n2) old 69 - (n+n2)):=by
     apply Array.ext'
     simp
    rw[e];exact hb
  · rw[Array.length_toList,size_zeroCells];show (grownCap w (n+n2) old 69 - (n+n2)) * 3+(n+n2) * 3=_;omega
 have onlyG:∀o,zd0 F w (w.drew.alloc o):=fun o=>(zd0.refl _ w).drew.new o
 have hbyte:Builtin.nextslicecap (n+n2) c * i0.bytes≤281474976710656∨n+n2≤c:=by
  by_cases h:n+n2≤c
  · exact .inr h
  · left;rw[hz2]
    have:=growslice_fits (need:=n+n2) (old:=c) (bytes:=40) (by omega) (by omega)
    exact this
 by_cases hm0:n2=0
 · subst hm0;have hL2:L2= []:=List.eq_nil_of_length_eq_zero hown2.hn.symm;have hds2:ds2= []:=List.eq_nil_of_length_eq_zero (by rw[hown2.hd,hL2];rfl);subst hL2 hds2;refine⟨A,c,w,?_,?_,zd0.refl _ _⟩
   · rcases A2 with _ | ad2
     · have hc2:(Value.slice none 0 c2)= .slice none 0 c2:=rfl;cases A with
       | none=>simp[Builtin.append_,run_underlying Tryz.underlying81,sizeOf,typeInfo,hi0,Builtin.lenOf,Builtin.firstCells,loadCells,loadCellsFrom,hle,storeCells]
       | some a=>simp[Builtin.append_,run_underlying Tryz.underlying81,sizeOf,typeInfo,hi0,Builtin.lenOf,Builtin.firstCells,loadCells,loadCellsFrom,hle,storeCells]
     · cases A with
       | none=>simp[Builtin.append_,run_underlying Tryz.underlying81,sizeOf,typeInfo,hi0,Builtin.lenOf,Builtin.firstCells,loadCells,loadCellsFrom,hle,storeCells]
       | some a=>simp[Builtin.append_,run_underlying Tryz.underlying81,sizeOf,typeInfo,hi0,Builtin.lenOf,Builtin.firstCells,loadCells,loadCellsFrom,hle,storeCells]
   · have:=hown.mono (G:=G) hFG
     simpa using this
 · obtain⟨g2,hA2,_,hg2⟩:=hown2.own.at_ (by omega);subst hA2;have hcl:∀j u,(cellsG frF L2 ds2)[j]? =some u→w.cell? ((⟨g2,0,none⟩:Addr).add j)=some u:=by
    intro j u hu;obtain⟨ad,had,hc⟩:=hown2.own.sl j u hu;injection had with had
    subst had;exact hc
   by_cases hroom:n+n2≤c
   · rcases hown.row with h0 | ⟨g,pre,post,hA,hB,hp,hFg⟩
     · omega
     · subst hA;have hpl:post.length=(c - n) * 3:=by omega
       have htot:(pre ++ cellsG frF L ds ++ post).length=pre.length+n * 3+post.length:=by rw[List.length_append,List.length_append,hl1]
       have hr:=run_append_room_cells (P:=Tryz.prog) w 81 ty 69 i0 Tryz.underlying81 hi0 g pre.length n c ⟨g2,0,none⟩ n2 c2 (cellsG frF L2 ds2) (by rw[hz1];exact hl2) hcl (zuz zg0 L2 ds2) hroom
        (fun j hj=>by
          rw[hz1];have hlt:pre.length+n * 3+j < (pre ++ cellsG frF L ds ++ post).length:=by rw[htot];omega
          rw[hB.cell _ (by rw[List.getElem?_toArray];exact List.getElem?_eq_getElem hlt)]
          rfl)
        (fun j hj=>hB.frozen _)
       rw[hz1] at hr;have hb2:=zea (cellsG frF L2 ds2) (pre.length+n * 3) hB (by rw[hl2,htot];omega);have ho:zd0 F w (w.setCells g (pre.length+n * 3) (cellsG frF L2 ds2)):=zeb (F:=F) hFg _ _ (zd0.refl _ _);have ho1:zd0 (fun q=>q=g) w (w.setCells g (pre.length+n * 3) (cellsG frF L2 ds2)):=zeb (F:=fun q=>q=g) rfl _ _ (zd0.refl _ _);refine⟨_,c,_,hr,⟨hnl,hdl,hroom,hcm,.inr ⟨g,pre,post.drop (n2 * 3),rfl,?_,by rw[List.length_drop];omega,hFG g hB.lt hFg⟩,dcat (fun m dd l _ hO=>⟨hO.hn,hO.own.keep (fun q _ hlt hq=>ho1.block q hlt (fun e=>zd3 hB hO.own tfr8.symm (by rw[hq,←e];rfl)))⟩)⟩,ho⟩;rw[zuy L ds L2 ds2 hown.hd]
       have e1:(pre ++ cellsG frF L ds ++ post).take (pre.length+n * 3)=pre ++ cellsG frF L ds:=by
        rw[List.take_append_of_le_length (by simp[hl1])];rw[List.take_of_length_le (by simp[hl1])]
       have e2:(pre ++ cellsG frF L ds ++ post).drop (pre.length+n * 3+(cellsG frF L2 ds2).length)=post.drop (n2 * 3):=by
        rw[hl2,List.drop_append,List.drop_eq_nil_of_le (by simp[hl1])];rw[List.length_append,hl1,List.nil_append]
        congr 1
        omega
       rw[e1,e2] at hb2
       simpa [List.append_assoc] using hb2
   · have hb':=hbyte.resolve_right hroom;have hbm:(n+n2) * i0.bytes≤140737488355328:=by rw[hz2];omega
     rcases hown.row with h0 | ⟨g,pre,post,hA,hB,hp,hFg⟩
     · have hn0:n=0:=by omega
       subst h0;subst hn0;have hL0:L= []:=List.eq_nil_of_length_eq_zero hown.hn.symm;have hd0:ds= []:=List.eq_nil_of_length_eq_zero (by rw[hown.hd,hL0];rfl);subst hL0 hd0;have hgr:=grown 0 (by omega);cases A with
       | none=>
         have hr:=run_append_nil (P:=Tryz.prog) w 81 ty 69 i0 _ Tryz.underlying81 hi0 hz0 ⟨g2,0,none⟩ n2 c2 (cellsG frF L2 ds2) (by rw[hz1];exact hl2) hcl (by omega) (by omega) (by rw[hz2];omega);simp only[Nat.zero_add,List.nil_append,cellsG,Array.empty_append] at hgr ⊢;exact⟨_,_,_,hr,hgr,onlyG _⟩
       | some a=>
         have hr:=run_append_grow (P:=Tryz.prog) w 81 ty 69 i0 _ Tryz.underlying81 hi0 hz0 a 0 0 [] (by simp) (by simp) ⟨g2,0,none⟩ n2 c2 (cellsG frF L2 ds2) (by rw[hz1];exact hl2) hcl (by omega) (by omega) hb';exact⟨_,_,_,hr,hgr,onlyG _⟩
     · subst hA;have hr:=run_append_grow (P:=Tryz.prog) w 81 ty 69 i0 _ Tryz.underlying81 hi0 hz0 ⟨g,pre.length,none⟩ n c (cellsG frF L ds) (by rw[hz1];exact hl1) (fun j u hu=>by
        have hlt:=(List.getElem?_eq_some_iff.1 hu).1;rw[Addr.add_lit];refine hB.cell _ ?_;rw[List.getElem?_toArray,List.append_assoc,List.getElem?_append_right (by omega),Nat.add_sub_cancel_left,List.getElem?_append_left hlt];exact hu) ⟨g2,0,none⟩ n2 c2 (cellsG frF L2 ds2) (by rw[hz1];exact hl2) hcl (by omega) (by omega) hb'
       exact⟨_,_,_,hr,grown c (by omega),onlyG _⟩
theorem zyo {F F2 G:Nat→Prop}{ops:Array Oper}{rest:List Oper}{o:Oper}{a:Act}{Q:Exit→Act→World→Prop}(w:World)(hgd:o.guard=none)(s x:Operand)
 (ho:o.op= .call { callee:= .builtin .append,args:=#[s,x],argTypes:=#[81,81] })
 (A:Option Addr) (n c:Nat) (L:List Frm) (ds:List (Option Addr×Nat)) (hs:a.eval s= .slice A n c) (hown:QFr w F A n c L ds)
 (A2:Option Addr) (n2 c2:Nat) (L2:List Frm) (ds2:List (Option Addr×Nat)) (hx:a.eval x= .slice A2 n2 c2) (hown2:zd8 frF 3 69 Frm.data w F2 A2 n2 c2 L2 ds2)
 (hF:∀g,w.heap.size≤g→G g) (hFG:∀g,g < w.heap.size→F g→G g) (hFG2:∀g,g < w.heap.size→F2 g→G g)
 (hb:n+n2≤34359738)
 (h:∀A' c' w',QFr w' G A' (n+n2) c' (L ++ L2) (ds ++ ds2)→ zd0 F w w'→wpList Tryz.prog ops Q rest (a.put o.dst (.slice A' (n+n2) c')) w'):wpList Tryz.prog ops Q (o :: rest) a w:=by
 refine wpList_plain hgd fun K hK=>?_
 obtain⟨A',c',w',hr,h1,h2⟩:=zyn (w:=w) o.type hown A2 n2 c2 L2 ds2 hown2 hF hFG hFG2 hb;unfold Oper.wp execOp;simp only[ho,resolve,invoke,builtin,Sem.run_bind,Sem.run_pure,Result.andThen_ok,List.map_toArray,List.map_cons,List.map_nil,hs,hx,hr];exact hK _ _ (h A' c' w' h1 h2)
end
section
open Go.RowKit Go.Maps
def CWk (S:CliS):Prop:=(0≤S.wk∧S.wk≤21)∧ (S.wk≠0→S.data= [])
theorem zyp (S:CliS)(c:Nat)(b:List UInt8):CWk (cEnd S c b):=⟨⟨Int.le_refl _,by show (0:Int)≤ 21;decide⟩,fun h=>absurd rfl h⟩
theorem zyq {S:CliS}(hd:S.data= [])(h:0≤S.wk∧S.wk≤21):CWk S:=⟨h,fun _=>hd⟩
theorem zyr {S:CliS}(hd:S.data= []):CWk (cSegS S):=by
 unfold cSegS;split
 · exact zyp _ _ _
 · exact zyq hd ⟨by show (0:Int)≤ 13;decide,by show (13:Int)≤ 21;decide⟩
theorem zys {S:CliS}(hd:S.data= [])(m:Int):CWk (cRowsS S m):=by
 unfold cRowsS;split
 · exact zyq hd ⟨by show (0:Int)≤ 18;decide,by show (18:Int)≤ 21;decide⟩
 · exact zyq hd ⟨by show (0:Int)≤ 17;decide,by show (17:Int)≤ 21;decide⟩
theorem zyt {S:CliS}(hd:S.data= [])(hw:0≤S.wk∧S.wk≤21)(M:Ms):CWk (cStepS S M):=by
 have htk:CWk (cTkA S M):=by
  unfold cTkA;split
  · refine zyq hd ?_;show 0≤(if M.la=true then (20:Int) else S.wk)∧ (if M.la=true then (20:Int) else S.wk)≤ 21;split<;>omega
  · exact zyq hd hw
 have hmd:(cTkA S M).data= []:=by
  unfold cTkA;split
  · exact hd
  · exact hd
 unfold cStepS;split
 · exact zyr hd
 split
 · exact zyr (S:={ S with tg:=!S.tg }) hd
 split
 · split
   · exact zyp _ _ _
   · exact zyq hd ⟨by show (0:Int)≤ 15;decide,by show (15:Int)≤ 21;decide⟩
 split
 · unfold cPcS;split
   · exact zyq hd ⟨by show (0:Int)≤ 15;decide,by show (15:Int)≤ 21;decide⟩
   split
   · exact zyp _ _ _
   · exact zyp _ _ _
 split
 · exact zys hd _
 split
 · exact zys (S:={ S with at_:=S.at_+M.sq }) hd _
 split
 · exact zyq hd ⟨by show (0:Int)≤ 21;decide,by show (21:Int)≤ 21;decide⟩
 split
 · unfold cTkS;split
   · exact htk
   · exact zyq hmd htk.1
 split
 · unfold cLsS;split
   · exact zyp _ _ _
   · exact zyp _ _ _
 · exact zyp _ _ _
structure CTk (S:CliS) (k:Nat):Prop where
 bnd:zyf S k
 wk:CWk S
theorem CTk.clb {S:CliS}{k:Nat}(h:CTk S k)(hk:k≤800):(0≤S.wk∧S.wk≤21)∧ (S.wk≠0→ClB S):=by
 obtain⟨hb,hd,⟨ha1,ha2⟩,hr⟩:=h.bnd;obtain⟨hw,hz⟩:=h.wk;exact⟨hw,fun h0=>⟨by omega,hz h0,by omega,by omega,by omega⟩⟩
theorem zyu {S:CliS}{k:Nat}(h:CTk S k)(f:Frm):CTk (cRecvS S f) (k+1):=by
 have z:∀c,zyf (cEnd S c []) (k+1):=fun c=>by
  obtain⟨hb,hd,⟨ha1,ha2⟩,hr⟩:=h.bnd;constructor<;>dsimp only[cEnd,List.length_nil]<;> omega
 unfold cRecvS;split
 · exact⟨h.bnd.mono,h.wk⟩
 split
 · exact⟨z _,zyp _ _ _⟩
 split
 · exact⟨z _,zyp _ _ _⟩
 · rename_i h0 h1 h3;have he:errI (cKs S f.data) f.data=0:=by
    rcases Int.decEq (errI (cKs S f.data) f.data) 0 with hh | hh
    · exact absurd (.inl hh) h3
    · exact hh
   have hw0:S.wk≠0:=fun e=>h0 (.inl e)
   exact⟨zyk h.bnd (zxz S _ he (fun hk=>h1 ⟨he,hk⟩)),zyt (h.wk.2 hw0) h.wk.1 _⟩
theorem zyv (S:CliS)(l:List Ms):(cSend S l).length≤l.length:=zqk
theorem zyw (S:CliS)(m:Int)(hm:m≤1000):(cRowsL S m).length≤1000:=by
 unfold cRowsL;split
 · have:=zyv S [bdeM (7 * (btotal S.b:Int) - S.b.length) (sum16L S.b)]
   simp at this;omega
 · have:=zyv S (cRowM S m)
   have h2:(cRowM S m).length=(cRowN S m).toNat:=by simp[cRowM,crowT]
   have h3:cRowN S m≤m:=by unfold cRowN;omega
   omega
theorem zyx (S:CliS)(M:Ms):(cSend S [M]).length≤1000:=by
 have:=zyv S [M]
 simp at this;omega
theorem zyy (S:CliS)(f:Frm):(cRecvL S f).length≤1000:=by
 unfold cRecvL;split
 · exact Nat.zero_le _
 split
 · exact Nat.zero_le _
 split
 · exact zyx _ _
 · rename_i h0 h1 h3;have he:errI (cKs S f.data) f.data=0:=by
    rcases Int.decEq (errI (cKs S f.data) f.data) 0 with hh | hh
    · exact absurd (.inl hh) h3
    · exact hh
   obtain⟨_,_,_,_,⟨_,hbl⟩,_,_⟩:=zxz S _ he (fun hk=>h1 ⟨he,hk⟩);have hsg:∀S:CliS,(cSegL S).length≤1000:=by
    intro S;unfold cSegL;split
    · exact Nat.zero_le _
    · exact zyx _ _
   unfold cStepL;split
   · exact hsg _
   split
   · exact hsg _
   split
   · split
     · exact Nat.zero_le _
     · exact zyx _ _
   split
   · unfold cPcL;split
     · exact zyx _ _
     split
     · exact zyx _ _
     · exact Nat.zero_le _
   split
   · exact zyw _ _ hbl
   split
   · exact zyw _ _ hbl
   split
   · exact zyx _ _
   split
   · unfold cTkL;split
     · exact Nat.zero_le _
     · exact zyx _ _
   split
   · unfold cLsL;split
     · exact zyx _ _
     · exact zyx _ _
   · exact Nat.zero_le _
section
variable {N p ps pb pd:Nat} {L:List Ent} {F G:Nat→Prop} {V:List (List UInt8)} {X:SdoS} {W W':World}
def RecvG (N p ps pb pd:Nat) (L:List Ent) (F G:Nat→Prop) (V:List (List UInt8)) (X':SdoS) (id:Int) (O:SegO) (W:World) (e:Ending) (W':World):Prop:=
 ∃N1 Y As ns cs ds A n c G',e= .returned (.tuple #[.slice As ns cs,.agg #[.int .i64 O.ix,.int .i64 O.sub,.slice A n c],.bool O.wr])∧ W.heap.size≤N1∧zg3 W' (fun g=>N1≤g) As ns cs (frmL id O.ms) ds∧zdv W' W.heap.size A n c O.b∧FIn Y A∧(∀q,Y q→W.heap.size≤q∧q < N1)∧ SKM N p ps pb pd L F G' V X' W'∧(∀q,G' q→(G q∨W.heap.size≤q)∧ ¬Y q∧q < N1)∧ zd0 (fun g=>g=p∨g=ps∨g=pb) W W'
theorem zyz (h:SKM N p ps pb pd L F G V X W)(f:Frm)(A:Option Addr)(m c:Nat)(hm:m=f.data.length)(hc:m≤c)(hA:∀W',zd0 (fun q=>q=p∨q=ps∨q=pb) W W'→Sl W' A (f.data.map bv)) :
 Calls Tryz.prog 60 #[.pointer (some ⟨p,0,none⟩),.agg #[.int .i64 f.id,.bool f.re,.slice A m c]] W (RecvG N p ps pb pd L F G V (sdRS L V X f) X.nout (sdRO L V X f) W):=by
 cases hr:sdReq X f
 · refine (zpi h.dv h.nn f A m c hm hr).mono ?_;rintro e W' ⟨rfl,hb⟩;have hS:sdRS L V X f=X:=by unfold sdRS;rw[if_neg (by rw[hr];decide)]
   have hO:sdRO L V X f=outZ:=by unfold sdRO;rw[if_neg (by rw[hr];decide)]
   rw[hS,hO];exact⟨W'.heap.size,fun _=>False,none,0,0,[],none,0,0,G,rfl,hb.size,zg3.nil _ _,zdv.nil _ _,FIn.nil _,fun _ h=>h.elim,h.step hb,fun q hq=>⟨.inl hq,id,((h.step hb).lG q hq).1⟩,zd0.of_below hb⟩
 · obtain⟨gl,n,cl,Av,cv,ds,es,hn,hD⟩:=h.db;refine (zpu h.dv h.wf h.nn hD h.so (by rw[hn];exact h.ll) h.hv h.nF f A m c hm hc hA hr).mono ?_;rintro e W' ⟨N1,Y,As,ns,cs,ds',A',n',c',rfl,h1,h2,h3,h4,h5,h6,h7⟩;have hz:=h7.size;have hlt:∀q,(((G q∨W.heap.size≤q)∧ ¬Y q)∧ q < N1)∧ q < W'.heap.size→(G q∨W.heap.size≤q)∧ q < W'.heap.size:=fun q hq=>⟨hq.1.1.1,hq.2⟩
   refine⟨N1,Y,As,ns,cs,ds',A',n',c',_,rfl,h1,h2,h3,h4,h5,h.call h7 (h6.mono (H:=fun q=>(((G q∨W.heap.size≤q)∧ ¬Y q)∧ q < N1)∧ q < W'.heap.size) (fun q hq hG=>⟨hG,hq⟩) ⟨fun hg=>h6.ng.1 hg.1,fun hg=>h6.ng.2.1 hg.1,fun hg=>h6.ng.2.2 hg.1⟩) hlt (zoh h.hv h.wf) (by rw[(zvg L V X f).1];exact h.nn),fun q hq=>⟨hq.1.1.1,hq.1.1.2,hq.1.2⟩,h7⟩
end
structure TKM (N pc mc p ps pb pd:Nat) (L:List Ent) (F G1 G2:Nat→Prop) (C:CliS) (X:SdoS) (V:List (List UInt8)) (W:World):Prop where
 sk:SKM N p ps pb pd L F G2 V X W
 cv:CV_ W G1 pc mc C
 clo:N≤pc∧N≤mc
 chi:pc < W.heap.size∧mc < W.heap.size
 g1:∀g,G1 g→N≤g∧g < W.heap.size∧g≠p∧g≠ps∧g≠pb∧ ¬F g∧ ¬G2 g
 np:pc≠p∧pc≠ps∧pc≠pb∧ ¬F pc∧ ¬G2 pc
 nm:mc≠p∧mc≠ps∧mc≠pb∧ ¬F mc∧ ¬G2 mc
def Free (pc mc p ps pb:Nat) (F G1 G2:Nat→Prop) (g:Nat):Prop:=g≠pc∧g≠mc∧g≠p∧g≠ps∧g≠pb∧ ¬F g∧ ¬G1 g∧ ¬G2 g
section
variable {N pc mc p ps pb pd:Nat} {L:List Ent} {F G1 G2 Z:Nat→Prop} {C C':CliS} {X X':SdoS} {V V':List (List UInt8)} {W W':World}
theorem TKM.far (h:TKM N pc mc p ps pb pd L F G1 G2 C X V W)(ho:zd0 Z W W')(hZ:∀q,Z q→q < W.heap.size→Free pc mc p ps pb F G1 G2 q):TKM N pc mc p ps pb pd L F G1 G2 C X V W':=by
 have hz:=ho.size
 exact { h with
  sk:=h.sk.far ho (fun q hq hl=>by obtain⟨_,_,b3,b4,b5,b6,_,b8⟩:=hZ q hq hl;exact⟨b3,b4,b5,b6,b8⟩)
  cv:=h.cv.keep (fun q hq hl=>ho.block q hl (fun hf=>by
   obtain⟨b1,b2,_,_,_,_,b7,_⟩:=hZ q hf hl;rcases hq with hq | hq | hq
   · exact b1 hq
   · exact b2 hq
   · exact b7 hq)) (fun _ _ h=>h)
  chi:=⟨Nat.lt_of_lt_of_le h.chi.1 hz,Nat.lt_of_lt_of_le h.chi.2 hz⟩
  g1:=fun g hg=>⟨(h.g1 g hg).1,Nat.lt_of_lt_of_le (h.g1 g hg).2.1 hz,(h.g1 g hg).2.2⟩ }
theorem TKM.step (h:TKM N pc mc p ps pb pd L F G1 G2 C X V W)(hb:Below W.heap.size W W'):TKM N pc mc p ps pb pd L F G1 G2 C X V W':=h.far (Z:=fun _=>False) (zd0.of_below hb) (fun _ h=>h.elim)
theorem TKM.srv {G':Nat→Prop}(h:TKM N pc mc p ps pb pd L F G1 G2 C X V W)(hs:SKM N p ps pb pd L F G' V X' W')(ho:zd0 (fun g=>g=p∨g=ps∨g=pb) W W')(hG:∀q,G' q→G2 q∨W.heap.size≤q):TKM N pc mc p ps pb pd L F G1 G' C X' V W':=by
 have hz:=ho.size;obtain⟨c1,c2⟩:=h.chi
 exact {
  sk:=hs
  cv:=h.cv.keep (fun q hq hl=>ho.block q hl (fun hf=>by
   rcases hq with hq | hq | hq
   · subst hq;rcases hf with hf | hf | hf
     · exact h.np.1 hf
     · exact h.np.2.1 hf
     · exact h.np.2.2.1 hf
   · subst hq;rcases hf with hf | hf | hf
     · exact h.nm.1 hf
     · exact h.nm.2.1 hf
     · exact h.nm.2.2.1 hf
   · obtain⟨_,_,b3,b4,b5,_⟩:=h.g1 q hq;rcases hf with hf | hf | hf
     · exact b3 hf
     · exact b4 hf
     · exact b5 hf)) (fun _ _ h=>h)
  clo:=h.clo
  chi:=⟨by omega,by omega⟩
  g1:=fun g hg=>by
   obtain⟨b1,b2,b3,b4,b5,b6,b7⟩:=h.g1 g hg;exact⟨b1,by omega,b3,b4,b5,b6,fun hq=>(hG g hq).elim b7 (fun hh=>by omega)⟩
  np:=⟨h.np.1,h.np.2.1,h.np.2.2.1,h.np.2.2.2.1,fun hq=>(hG _ hq).elim h.np.2.2.2.2 (fun hh=>by omega)⟩
  nm:=⟨h.nm.1,h.nm.2.1,h.nm.2.2.1,h.nm.2.2.2.1,fun hq=>(hG _ hq).elim h.nm.2.2.2.2 (fun hh=>by omega)⟩ }
theorem TKM.set (h:TKM N pc mc p ps pb pd L F G1 G2 C X V W)(hs:SKM N p ps pb pd L (fun g=>(F g∨W.heap.size≤g)∧ g < W'.heap.size) G2 V' X W')(ho:zd0 F W W'):TKM N pc mc p ps pb pd L (fun g=>(F g∨W.heap.size≤g)∧ g < W'.heap.size) G1 G2 C X V' W':=by
 have hz:=ho.size;obtain⟨c1,c2⟩:=h.chi
 exact {
  sk:=hs
  cv:=h.cv.keep (fun q hq hl=>ho.block q hl (fun hf=>by
   rcases hq with hq | hq | hq
   · subst hq;exact h.np.2.2.2.1 hf
   · subst hq;exact h.nm.2.2.2.1 hf
   · exact (h.g1 q hq).2.2.2.2.2.1 hf)) (fun _ _ h=>h)
  clo:=h.clo
  chi:=⟨by omega,by omega⟩
  g1:=fun g hg=>by
   obtain⟨b1,b2,b3,b4,b5,b6,b7⟩:=h.g1 g hg;exact⟨b1,by omega,b3,b4,b5,fun hq=>hq.1.elim b6 (fun hh=>by omega),b7⟩
  np:=⟨h.np.1,h.np.2.1,h.np.2.2.1,fun hq=>hq.1.elim h.np.2.2.2.1 (fun hh=>by omega),h.np.2.2.2.2⟩
  nm:=⟨h.nm.1,h.nm.2.1,h.nm.2.2.1,fun hq=>hq.1.elim h.nm.2.2.2.1 (fun hh=>by omega),h.nm.2.2.2.2⟩ }
theorem TKM.cli {l:List Frm}{e:Ending}(h:TKM N pc mc p ps pb pd L F G1 G2 C X V W)(hr:zw3 W G1 pc mc C' l e W'):∃N1 As ns cs ds,e= .returned (.slice As ns cs)∧ zg3 W' (fun g=>N1≤g) As ns cs l ds∧W.heap.size≤N1∧zd0 (fun q=>q=pc∨q=mc∨G1 q) W W'∧
 TKM N pc mc p ps pb pd L F (fun g=>(G1 g∨W.heap.size≤g)∧ g < N1∧g < W'.heap.size) G2 C' X V W':=by
 obtain⟨N1,As,ns,cs,ds,he,hO,hN,hS,ho⟩:=hr;have hz:=ho.size;obtain⟨c1,c2⟩:=h.chi;have hlt:=h.sk.dv.lt;have hsk:SKM N p ps pb pd L F G2 V X W':=h.sk.far ho (fun q hq hl=>by
  rcases hq with rfl | rfl | hq
  · exact h.np
  · exact h.nm
  · exact (h.g1 q hq).2.2)
 refine⟨N1,As,ns,cs,ds,he,hO,hN,ho,?_⟩
 exact {
  sk:=hsk
  cv:=hS.keep (fun _ _ _=>rfl) (fun q hq hh=>⟨hh.1,hh.2,hq⟩)
  clo:=h.clo
  chi:=⟨by omega,by omega⟩
  g1:=fun g hg=>by
   have hlo:=h.clo;rcases hg.1 with h1 | h1
   · obtain⟨b1,b2,b3⟩:=h.g1 g h1;exact⟨b1,by omega,b3⟩
   · exact⟨by omega,hg.2.2,by omega,by omega,by omega,fun hf=>by have:=(h.sk.lF g hf).2;omega,fun hf=>by have:=(h.sk.lG g hf).1;omega⟩
  np:=h.np
  nm:=h.nm }
end
end
section
section
variable {L:List Ent} {V:List (List UInt8)} {X:SdoS} {C:CliS} {ix sub:Int} {b:List UInt8}
theorem zy0 (hp:PlcOk ix sub){m:Int}(hm:0≤m∧m≤2):cBegB ix sub m=true:=decide_eq_true ⟨hp.1.1,hp.1.2,hp.2.1,hp.2.2,hm.1,hm.2⟩
theorem zy1 (hp:PlcOk ix sub)(hb:0 < b.length∧b.length≤4)(hn:C.nd=5)(hX:X.nin=1541∧X.nout=1413)(h1:X.sg.st=0)(h2:X.bk.st=0) :
 WrEndX L V ix sub b (tkRn L 600 ⟨cWriteS C ix sub b 0,X,V,cWriteL C ix sub b 0⟩):=by
 have hbg:=zy0 hp (m:=0) ⟨by decide,by decide⟩;have e1:cWriteS C ix sub b 0= { cBegS C ix sub with b:=b,wk:=12,at_:=(b.length:Int)+1 }:=by
  unfold cWriteS;rw[if_neg (by rw[hbg];decide),if_neg (by decide),if_pos ⟨rfl,hb.1,hb.2⟩]
 have e2:cWriteL C ix sub b 0= [fq (downM ix sub true 0 b)]:=by
  unfold cWriteL;rw[if_neg (by rw[hbg];decide),if_neg (by decide),if_pos ⟨rfl,hb.1,hb.2⟩];exact zs7 hn (zql ix sub 0 b ⟨hp.1.1,hp.1.2,hp.2.1,hp.2.2⟩ hb.2 (fun _=>rfl))
 rw[e1,e2];exact zr4.end_ (zs5 hp hb hn rfl rfl rfl rfl rfl hX h1 h2) (fun T h=>h.1.l) (by omega)
theorem zy2 (hp:PlcOk ix sub)(hbl:b.length≤2000){m:Int}(hm:0≤m∧m≤2)(hn:C.nd=5)(hX:X.nin=1541∧X.nout=1413)(h1:X.sg.st=0)(h2:X.bk.st=0)(h3:X.bk.ha=0∧X.bk.ta=0∧X.bk.ro=0) :
 zzl L V ix sub b (tkRn L 600 ⟨cWriteS C ix sub b m,X,V,cWriteL C ix sub b m⟩):=by
 have hbg:=zy0 hp hm;by_cases hm2:m=2
 · have e1:cWriteS C ix sub b m= { cBegS C ix sub with b:=b,wk:=16 }:=by
    unfold cWriteS;rw[if_neg (by rw[hbg];decide),if_pos hm2]
   have e2:cWriteL C ix sub b m= [fq (bdnM ix sub b.length)]:=by
    unfold cWriteL;rw[if_neg (by rw[hbg];decide),if_pos hm2];exact zs7 hn (zqp ix sub b.length ⟨hp.1.1,hp.1.2,hp.2.1,hp.2.2⟩)
   rw[e1,e2];exact zr4.end_ (zud hp hbl hn rfl rfl rfl rfl rfl rfl hX h1 h2 h3) (fun T h=>h.l) (by omega)
 by_cases hs:m=0∧0 < b.length∧b.length≤4
 · rw[hs.1];exact (zy1 hp hs.2 hn hX h1 h2).1
 · have e1:cWriteS C ix sub b m= { cBegS C ix sub with b:=b,wk:=12 }:=by
    unfold cWriteS;rw[if_neg (by rw[hbg];decide),if_neg hm2,if_neg hs]
   have e2:cWriteL C ix sub b m= [fq (downM ix sub true b.length [])]:=by
    unfold cWriteL;rw[if_neg (by rw[hbg];decide),if_neg hm2,if_neg hs];exact zs7 hn (zql ix sub b.length [] ⟨hp.1.1,hp.1.2,hp.2.1,hp.2.2⟩ (Nat.zero_le _) (fun h=>absurd rfl h))
   rw[e1,e2];exact zr4.end_ (zti hp hbl hn rfl rfl rfl rfl rfl rfl rfl hX h1 h2) (fun T h=>h.l) (by omega)
theorem zy3 (hp:PlcOk ix sub)(hbl:(getB L V ix sub).length≤256){m:Int}(hm:0≤m∧m≤2)(hn:C.nd=5)(hX:X.nin=1541∧X.nout=1413)(h1:X.sg.st=0)(h2:X.bk.st=0) :
 zzm L V ix sub (tkRn L 600 ⟨cReadS C ix sub m,X,V,cReadL C ix sub m⟩):=by
 have hbg:=zy0 hp hm;by_cases hm2:m=2
 · have e1:cReadS C ix sub m= { cBegS C ix sub with wk:=19 }:=by
    unfold cReadS;rw[if_neg (by rw[hbg];decide),if_pos hm2]
   have e2:cReadL C ix sub m= [fq (buM ix sub)]:=by
    unfold cReadL;rw[if_neg (by rw[hbg];decide),if_pos hm2];exact zs7 hn (zqr ix sub ⟨hp.1.1,hp.1.2,hp.2.1,hp.2.2⟩)
   rw[e1,e2];exact zr4.end_ (zuu hp hbl hn rfl rfl rfl rfl rfl hX h1 h2) (fun T h=>h.l) (by omega)
 · have e1:cReadS C ix sub m= { cBegS C ix sub with wk:=14 }:=by
    unfold cReadS;rw[if_neg (by rw[hbg];decide),if_neg hm2]
   have e2:cReadL C ix sub m= [fq (uplM ix sub)]:=by
    unfold cReadL;rw[if_neg (by rw[hbg];decide),if_neg hm2];exact zs7 hn (zqn ix sub ⟨hp.1.1,hp.1.2,hp.2.1,hp.2.2⟩)
   rw[e1,e2];exact zr4.end_ (ztu hp hbl hn rfl rfl rfl rfl rfl hX h1 h2) (fun T h=>h.l) (by omega)
end
section
open Go.RowKit
theorem zy4 {w:World}{G:Nat→Prop}{p m:Nat}{S:CliS}(h:CV_ w G p m S):w.cell? ⟨p,35,none⟩=some (.int .u32 (S.code:Nat)):=by
 obtain⟨R,hB,_⟩:=h;exact hB.cell 35 rfl
theorem zy5 {w:World}{G:Nat→Prop}{p m:Nat}{S:CliS}(h:CV_ w G p m S):∃A n c,w.cell? ⟨p,36,none⟩=some (.slice A n c)∧ n=S.data.length∧Sl w A (S.data.map bv):=by
 obtain⟨R,hB,_,_,_,hn,hd⟩:=h;refine⟨R.A2,R.n2,R.c2,hB.cell 36 rfl,hn,?_⟩;by_cases h0:S.data= []
 · rw[h0];exact Sl.nil _ _
 · exact (hd h0).1.sl
theorem zy6 {L:List Ent}(hs:SortedE L){V:List (List UInt8)}(hl:V.length=L.length){ix sub:Int}{b:List UInt8}(hm:mayC L ix sub b false=0)(hg:getC L ix sub=0):getB L (putV L V ix sub b false) ix sub=b:=by
 unfold getB;rw[if_pos hg];exact zce hs hl hm
end
end
end Go.Proofs.YtkkpjbjmhaecjaaGreat
