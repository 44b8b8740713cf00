/- None -/
import Derived.Test.YtkkpjbjmhaecjaaGreatT11
import Derived.Deep.MidRow
import Derived.Laws.Closers25b
namespace Go.Proofs.YtkkpjbjmhaecjaaGreat
set_option linter.all false
set_option maxRecDepth 100000
set_option maxHeartbeats 4000000
section
open Go.RowKit Go.Maps
def frF (f:Frm) (d:Option Addr×Nat):List Value:=[.int .i64 f.id,.bool f.re,.slice d.1 f.data.length d.2]
theorem zgz (f:Frm)(d:Option Addr×Nat):(frF f d).length=3:=rfl
theorem zg0 (f:Frm)(d:Option Addr×Nat):∀u ∈ frF f d,u.oneCell'=true:=by
 intro u hu;simp[frF] at hu;rcases hu with rfl | rfl | rfl<;>rfl
theorem zg1:(Tryz.prog.info? 69).map (fun i=>(i.zero,i.size,i.bytes))=some (some (.agg #[.int .i64 0,.bool false,.slice none 0 0]),3,40):=by kernel_rfl
def zg3 (w:World) (F:Nat→Prop) (A:Option Addr) (n c:Nat) (L:List Frm) (ds:List (Option Addr×Nat)):Prop:=zd8 frF 3 69 Frm.data w F A n c L ds∧zgw ds
theorem zg3.nil (w:World)(F:Nat→Prop):zg3 w F none 0 0 [] []:=⟨zd8.nil _ _,List.Pairwise.nil⟩
theorem zg3.below {w w':World}{F:Nat→Prop}{A:Option Addr}{n c:Nat}{L:List Frm}{ds:List (Option Addr×Nat)}(h:zg3 w F A n c L ds)(hb:Below w.heap.size w w'):zg3 w' F A n c L ds:=⟨h.1.below hb,h.2⟩
def SlM (w:World) (A:Option Addr) (L:List Ms):Prop:= ∀j M,L[j]? =some M→ ∃b off Aj cj,A=some ⟨b,off,none⟩∧ (w.cell? ⟨b,off+j * 14+0,none⟩=some (.int .i64 M.kind)∧ w.cell? ⟨b,off+j * 14+1,none⟩=some (.int .i64 M.ix)∧ w.cell? ⟨b,off+j * 14+2,none⟩=some (.int .i64 M.sub)∧ w.cell? ⟨b,off+j * 14+3,none⟩=some (.bool M.tg)∧ w.cell? ⟨b,off+j * 14+4,none⟩=some (.bool M.la)∧ w.cell? ⟨b,off+j * 14+5,none⟩=some (.bool M.cr)∧ w.cell? ⟨b,off+j * 14+6,none⟩=some (.bool M.sz)∧ w.cell? ⟨b,off+j * 14+7,none⟩=some (.int .u32 (M.size:Nat))∧ w.cell? ⟨b,off+j * 14+8,none⟩=some (.int .u32 (M.code:Nat))∧ w.cell? ⟨b,off+j * 14+9,none⟩=some (.slice Aj M.data.length cj)∧ w.cell? ⟨b,off+j * 14+10,none⟩=some (.int .i64 M.sq)∧ w.cell? ⟨b,off+j * 14+11,none⟩=some (.int .i64 M.bl)∧ w.cell? ⟨b,off+j * 14+12,none⟩=some (.int .i64 M.em)∧ w.cell? ⟨b,off+j * 14+13,none⟩=some (.int .u16 (M.sum:Nat)))∧ Sl w Aj (M.data.map bv)
theorem SlM.below {w w':World}{A:Option Addr}{L:List Ms}(h:SlM w A L)(hb:Below w.heap.size w w'):SlM w' A L:=by
 intro j M hM;obtain⟨b,off,Aj,cj,hA,⟨c0,c1,c2,c3,c4,c5,c6,c7,c8,c9,c10,c11,c12,c13⟩,hs⟩:=h j M hM;have k:∀ {p v},w.cell? p=some v→w'.cell? p=some v:=fun hc=>(hb.cell (zal hc)).trans hc
 exact⟨b,off,Aj,cj,hA,⟨k c0,k c1,k c2,k c3,k c4,k c5,k c6,k c7,k c8,k c9,k c10,k c11,k c12,k c13⟩,hs.below hb⟩
theorem zg4 {w:World}{g:Nat}{M:Ms}{A:Option Addr}{n c:Nat}(hB:Blk w g 95 (msV M A n c))(hn:n=M.data.length)(hs:Sl w A (M.data.map bv)):SlM w (some ⟨g,0,none⟩) [M]:=by
 intro j N hN;cases j with
 | succ j=>simp at hN
 | zero=>
   simp at hN;subst hN;subst hn;exact⟨g,0,A,c,rfl,⟨hB.cell 0 rfl,hB.cell 1 rfl,hB.cell 2 rfl,hB.cell 3 rfl,hB.cell 4 rfl,hB.cell 5 rfl,hB.cell 6 rfl,hB.cell 7 rfl,hB.cell 8 rfl,hB.cell 9 rfl,hB.cell 10 rfl,hB.cell 11 rfl,hB.cell 12 rfl,hB.cell 13 rfl⟩,hs⟩
theorem zg6 {w:World}{F:Nat→Prop}{A:Option Addr}{n c:Nat}{L:List Ms}{ds:List (Option Addr×Nat)}(h:OwnM w F A n c L ds):SlM w A L:=by
 intro j M hM;obtain⟨d,hd,hO,_⟩:=h.elem hM;obtain⟨g,hA,_,hc⟩:=h.cells zgt hM hd (by omega);refine⟨g,0,d.1,d.2,hA,?_,hO.sl⟩;simp only[Nat.zero_add];exact⟨hc 0 _ rfl,hc 1 _ rfl,hc 2 _ rfl,hc 3 _ rfl,hc 4 _ rfl,hc 5 _ rfl,hc 6 _ rfl,hc 7 _ rfl,hc 8 _ rfl,hc 9 _ rfl,hc 10 _ rfl,hc 11 _ rfl,hc 12 _ rfl,hc 13 _ rfl⟩
theorem zg8 (id:Int)(L:List Ms)(k:Nat)(M:Ms)(h:L[k]? =some M):frmL id (L.take (k+1))=if canB M=true then frmL id (L.take k) ++ [⟨id,false,laidB M⟩] else frmL id (L.take k):=by
 obtain⟨hk,hx⟩:=List.getElem?_eq_some_iff.1 h;rw[List.take_succ_eq_append_getElem hk,hx];unfold frmL;rw[List.filter_append,List.map_append];by_cases hc:canB M=true
 · rw[if_pos hc,List.filter_cons_of_pos hc];rfl
 · rw[if_neg hc,List.filter_cons_of_neg hc];simp
theorem zha {α:Type}{f: α→Option Addr×Nat→List Value}{k:Nat}{e:TypeId}{dat: α→List UInt8}{w:World}{F:Nat→Prop}{A:Option Addr}{n c g:Nat}{L:List α}{ds:List (Option Addr×Nat)}(h:zd8 f k e dat w F A n c L ds)(hg:Value.ownBlock (.slice A n c)=some g):F g:=by
 rcases h.own.shape with ⟨rfl,_⟩ | ⟨q,rfl,_⟩
 · simp[Value.ownBlock] at hg
 · simp[Value.ownBlock] at hg;subst hg;exact h.inF _ rfl
theorem tfr8:(5:TypeId)≠ 69:=by decide
def MsOk (M:Ms):Prop:=M.size≤4294967295∧M.code≤4294967295∧M.sum≤65535
def SendR (id:Int) (L:List Ms) (W:World) (e:Ending) (W':World):Prop:=
 ∃A' n' c' ds,e= .returned (.slice A' n' c')∧ zg3 W' (fun g=>W.heap.size≤g) A' n' c' (frmL id L) ds∧Below W.heap.size W W'
theorem zhb (p:Nat)(id:Int)(L:List Ms)(A:Option Addr)(n c:Nat)(W:World)(h1:W.cell? ⟨p,1,none⟩=some (.int .i64 id))(hn:n=L.length)(hL:SlM W A L)(hu:∀M ∈ L,MsOk M)(hl:n≤1000) :
 Calls Tryz.prog 83 #[.pointer (some ⟨p,0,none⟩),.slice A n c] W (SendR id L W):=by
 have HL:=zak hL;have HU:=zak hu;have HN:=zak hn;have hz:=zal h1;simp only at hz;clear hL hu hn;obtain⟨i0,hi0,hz0,hz1,hz2⟩:=info_parts zg1;go_enter Tryz.func83,Tryz.ntmps83
 go_wp2_with fail
 go_loopw [5,7,8,9,12,13,14,15,16,17,18,19,20,21,22,23,24,25,26,27,28,29,30,31,32] (fun v5 _ _ _ v12 _ _ _ _ _ _ _ _ _ _ _ _ _ _ _ _ _ _ _ _ wr=> ∃k A' m' c' ds,v12= .int .i64 (k:Nat)∧ v5= .slice A' m' c'∧k≤n∧Hid (zg3 wr (fun g=>W.heap.size≤g) A' m' c' (frmL id (L.take k)) ds∧Below W.heap.size W wr)) (fun _ _ _ _ v12 _ _ _ _ _ _ _ _ _ _ _ _ _ _ _ _ _ _ _ _ _=>n - (intOf v12).toNat)
 case atStart=>exact⟨0,none,0,0,[],rfl,rfl,Nat.zero_le _,zak ⟨zg3.nil _ _,Below.refl _ _⟩⟩
 case round=>
  obtain⟨k,A',m',c',ds,rfl,rfl,hk,HR⟩:=hrel;by_cases hlt:k < n
  · obtain⟨M,hM⟩:∃M,L[k]? =some M:=⟨L[k]'(by rw[←HN.out];exact hlt),List.getElem?_eq_getElem _⟩;have HM:=zak hM;obtain⟨b,off,Aj,cj,hA,⟨c0,c1,c2,c3,c4,c5,c6,c7,c8,c9,c10,c11,c12,c13⟩,hs⟩:=(HL.out.below HR.out.2) k M hM;subst hA;replace c0:wr.cell? ⟨b,off+k * 14,none⟩=some (.int .i64 M.kind):=c0;have HS:=zak (hs.alloc (.cells (msV M Aj M.data.length cj) 95));have q:=zdg wr 95 (msV M Aj M.data.length cj);have HB:=zak (zc5 HR.out.2 (.cells (msV M Aj M.data.length cj) 95));have HO:=zak (HR.out.1.below (zc5 (Below.refl _ _) (.cells (msV M Aj M.data.length cj) 95)));have zr:=HR.out.2.size;have hU:=HU.out M (List.mem_of_getElem? hM)
    have h1r:wr.cell? ⟨p,1,none⟩=some (.int .i64 id):=(HR.out.2.cell hz).trans h1;have HBD:=zak (fun W' (h:Sl W' Aj (M.data.map bv))=> zgh M Aj M.data.length cj W' rfl h hU.1 hU.2.1 hU.2.2);unfold msV at q HB HO HBD HS;obtain⟨cI,cJ,cK,cS,de,dg,dN,dO,dP,dQ,cT,dH,dI,dJ⟩:=zde q;have ei:=q.frozen;clear hM hs hU;go_wp2_with fail
    refine (HBD.out _ HS.out).mono ?_;rintro e w2 ⟨A2,n2,c2,rfl,hO2,hb2⟩;have HB2:=zak (HB.out.trans (hb2.mono (Nat.le_trans zr (by simp))));have HO2:=zak (HO.out.below hb2);have z2:wr.heap.size+1≤w2.heap.size:=by have:=hb2.size;simpa using this
    have h12:w2.cell? ⟨p,1,none⟩=some (.int .i64 id):=(HB2.out.cell hz).trans h1;have zp2:p < w2.heap.size:=by omega
    have HST:=zak (zg8 id L k M HM.out);clear h1r hb2;by_cases hc:canB M=true
    · rw[if_pos hc] at hO2 ⊢;rw[if_pos hc] at HST;obtain rfl:n2=(laidB M).length:=hO2.hn;have HOd:=zak (hO2.mono (Nat.zero_le _));have HFd:=zak (hO2.own.fin.mono (G:=fun g=>W.heap.size≤g) (fun g h=>by have:=h.1;simp at this;omega));have hml:m'=(frmL id (L.take k)).length:=HO2.out.1.hn;have HAP:=zak (HO.out.2.snoc (d:=(A2,c2)) (N:=wr.heap.size+1) (fun e he g hg=>Nat.lt_succ_of_lt (zgx HR.out.1.1 e he g hg)) (hO2.own.fin.mono (fun g h=>by have:=h.1;simpa using this)));have hml2:(frmL id (L.take k)).length≤n:=by
       have h1:=List.length_filter_le canB (L.take k);have h2:=List.length_take_le k L;unfold frmL;rw[List.length_map];omega
      have hm1:m'≤1000:=by omega
      clear hc hO2 hml hml2;go_wp2_with (at_builtin;refine zd9 _ rfl _ _ 81 rfl zgz zg0 tfr8 i0 _ 40 Tryz.underlying81 hi0 hz0 hz1 hz2 rfl (by omega) (by omega) A' m' c' (frmL id (L.take k)) ds rfl (HO2.out.1.below (zc5 (Below.refl _ _) _)) ⟨id,false,laidB M⟩ (A2,c2) _ rfl (by exact (zdg _ _ _).sl) (HOd.out.alloc _) HFd.out (fun g h=>by simp at h;omega) (by omega) (m'+1) rfl ?_;intro A4 c4 w4 hO4 hg4 hr4)
      have hgb:Below W.heap.size (w2.alloc (.cells #[.int .i64 id,.bool false,.slice A2 (laidB M).length c2] 69)) w4:=(zd0.of_grown (F:=fun g=>W.heap.size≤g) hg4 (fun g e=>zha HO2.out.1 e)).below (by simp;omega) (fun i h=>h);exact⟨⟨k+1,A4,m'+1,c4,_,by congr 1,rfl,by omega,zak ⟨⟨by rw[HST];exact hO4,HAP.out⟩,(zc5 HB2.out _).trans hgb⟩⟩,by simp only[intOf];omega⟩
    · rw[if_neg hc] at hO2 ⊢;rw[if_neg hc] at HST;clear hc hO2;go_wp2_with fail
      exact⟨⟨k+1,A',m',c',ds,by congr 1,rfl,by omega,zak ⟨by rw[HST];exact HO2.out,HB2.out⟩⟩,by simp only[intOf];omega⟩
  · obtain rfl:k=n:=by omega
    go_wp2_with fail
    go_ret
    refine⟨A',m',c',ds,rfl,?_,HR.out.2⟩
    have:=HR.out.1
    rwa [HN.out,List.take_length] at this
end
section
open Go.RowKit
def entF (E:Ent) (d:Option Addr×Nat):List Value:=(entV E d.1 E.df.length d.2).toList
def valF (v:List UInt8) (d:Option Addr×Nat):List Value:=[.slice d.1 v.length d.2]
theorem zhc (E:Ent)(d:Option Addr×Nat):(entF E d).length=11:=rfl
theorem zhd (v:List UInt8)(d:Option Addr×Nat):(valF v d).length=1:=rfl
theorem zhe (E:Ent)(d:Option Addr×Nat):∀u ∈ entF E d,u.oneCell'=true:=by
 intro u hu;simp only[entF,entV,List.mem_cons,List.not_mem_nil,or_false] at hu;rcases hu with rfl | rfl | rfl | rfl | rfl | rfl | rfl | rfl | rfl | rfl | rfl<;>rfl
theorem zhf (v:List UInt8)(d:Option Addr×Nat):∀u ∈ valF v d,u.oneCell'=true:=by
 intro u hu;simp only[valF,List.mem_cons,List.not_mem_nil,or_false] at hu;subst hu
 rfl
theorem infoE:(Tryz.prog.info? 90).map (fun i=>(i.zero,i.size,i.bytes))=some (some (.agg #[.int .i64 0,.int .i64 0,.string ⟨#[]⟩,.int .i64 0,.int .i64 0,.bool false,.bool false,.int .i64 0,.int .i64 0,.int .i64 0,.slice none 0 0]),11,104):=by kernel_rfl
theorem infoS:(Tryz.prog.info? 27).map (fun i=>(i.zero,i.size,i.bytes))=some (some (.slice none 0 0),1,24):=by kernel_rfl
def fitE (E:Ent):Prop:=E.df.length≤35184372088832∧E.nm.size≤9223372036854775807
def fitB (v:List UInt8):Prop:=v.length≤35184372088832
abbrev OwnE (w:World) (F:Nat→Prop) (A:Option Addr) (n c:Nat) (L:List Ent) (ds:List (Option Addr×Nat)):Prop:=zd8 entF 11 90 Ent.df w F A n c L ds
abbrev OwnS (w:World) (F:Nat→Prop) (A:Option Addr) (n c:Nat) (V:List (List UInt8)) (es:List (Option Addr×Nat)):Prop:=zd8 valF 1 27 (fun v=>v) w F A n c V es
structure DB (T:TypeId) (w:World) (F:Nat→Prop) (p:Nat) (Al:Option Addr) (n cl:Nat) (Av:Option Addr) (cv:Nat) (L:List Ent) (V:List (List UInt8)) (ds es:List (Option Addr×Nat)):Prop where
 blk:Blk w p T #[.slice Al n cl,.slice Av n cv]
 inF:F p
 ents:OwnE w F Al n cl L ds
 vals:OwnS w F Av n cv V es
 fe:∀E ∈ L,fitE E
 fv:∀v ∈ V,fitB v
section
variable {T:TypeId} {w w':World} {F G:Nat→Prop} {p n cl cv:Nat} {Al Av:Option Addr} {L:List Ent} {V:List (List UInt8)} {ds es:List (Option Addr×Nat)}
theorem DB.keep (h:DB T w F p Al n cl Av cv L V ds es)(hk:∀g,F g→g < w.heap.size→w'.heap[g]? =w.heap[g]?):DB T w' F p Al n cl Av cv L V ds es:=
 ⟨(hk p h.inF h.blk.lt).trans h.blk,h.inF,h.ents.keep hk,h.vals.keep hk,h.fe,h.fv⟩
theorem DB.below (h:DB T w F p Al n cl Av cv L V ds es)(hb:Below w.heap.size w w'):DB T w' F p Al n cl Av cv L V ds es:=h.keep fun g _ hlt=>hb.block g hlt
theorem DB.mono (h:DB T w F p Al n cl Av cv L V ds es)(hG:∀g,g < w.heap.size→F g→G g):DB T w G p Al n cl Av cv L V ds es:=
 ⟨h.blk,hG p h.blk.lt h.inF,h.ents.mono hG,h.vals.mono hG,h.fe,h.fv⟩
theorem DB.lenV (h:DB T w F p Al n cl Av cv L V ds es):V.length=L.length:=by rw[←h.vals.hn,←h.ents.hn]
theorem DB.ent (h:DB T w F p Al n cl Av cv L V ds es){k:Nat}{E:Ent}(hE:L[k]? =some E):∃g d,Al=some ⟨g,0,none⟩∧ g < w.heap.size∧ds[k]? =some d∧zdv w 0 d.1 E.df.length d.2 E.df∧fitE E∧
 w.cell? ⟨g,k * 11,none⟩=some (.int .i64 E.ix)∧ w.cell? ⟨g,k * 11+1,none⟩=some (.int .i64 E.sub)∧ w.cell? ⟨g,k * 11+2,none⟩=some (.string E.nm)∧ w.cell? ⟨g,k * 11+3,none⟩=some (.int .i64 E.ty)∧
 w.cell? ⟨g,k * 11+4,none⟩=some (.int .i64 E.acc)∧ w.cell? ⟨g,k * 11+5,none⟩=some (.bool E.mp)∧ w.cell? ⟨g,k * 11+6,none⟩=some (.bool E.st)∧ w.cell? ⟨g,k * 11+7,none⟩=some (.int .i64 E.mx)∧
 w.cell? ⟨g,k * 11+8,none⟩=some (.int .i64 E.lo)∧ w.cell? ⟨g,k * 11+9,none⟩=some (.int .i64 E.hi)∧ w.cell? ⟨g,k * 11+10,none⟩=some (.slice d.1 E.df.length d.2):=by
 obtain⟨d,hd,hO,_⟩:=h.ents.elem hE;obtain⟨g,hA,hlt,hc⟩:=h.ents.cells zhc hE hd (by omega);exact⟨g,d,hA,hlt,hd,hO,h.fe E (List.mem_of_getElem? hE),hc 0 _ rfl,hc 1 _ rfl,hc 2 _ rfl,hc 3 _ rfl,hc 4 _ rfl,hc 5 _ rfl,hc 6 _ rfl,hc 7 _ rfl,hc 8 _ rfl,hc 9 _ rfl,hc 10 _ rfl⟩
theorem DB.val (h:DB T w F p Al n cl Av cv L V ds es){k:Nat}{v:List UInt8}(hv:V[k]? =some v):∃g d,Av=some ⟨g,0,none⟩∧ g < w.heap.size∧es[k]? =some d∧zdv w 0 d.1 v.length d.2 v∧fitB v∧
 w.cell? ⟨g,k,none⟩=some (.slice d.1 v.length d.2)∧ w.frozen? ⟨g,k,none⟩=false∧F g:=by
 obtain⟨d,hd,hO,_⟩:=h.vals.elem hv;obtain⟨g,hA,hlt,hc⟩:=h.vals.cells zhd hv hd (by omega);have hk:k < n:=by rw[h.vals.hn];exact (List.getElem?_eq_some_iff.1 hv).1
 obtain⟨g',u,hA',_,_,_,_,hf⟩:=h.vals.own.cell hk;rw[hA] at hA';injection hA' with hA'
 injection hA' with hA'
 subst hA';exact⟨g,d,hA,hlt,hd,hO,h.fv v (List.mem_of_getElem? hv),by have:=hc 0 _ rfl;rw[Nat.mul_one] at this;exact this,hf,h.vals.inF g hA⟩
theorem DB.store {g:Nat}(h:DB T w F p Al n cl (some ⟨g,0,none⟩) cv L V ds es)(hT:T≠27){k:Nat}{v:List UInt8}{A:Option Addr}{m c:Nat}(hk:k < n)(hv:zdv w 0 A m c v)(hF:FIn F A)(hfit:fitB v) :
 DB T (w.setCell ⟨g,k,none⟩ (.slice A m c)) F p Al n cl (some ⟨g,0,none⟩) cv L (V.set k v) ds (es.set k (A,c)):=by
 obtain rfl:=hv.hn;have hv':zdv w 0 (A,c).1 v.length (A,c).2 v:=hv;have hG:w.grownBy (w.setCell ⟨g,k,none⟩ (.slice A v.length c)) (Value.ownBlock (.slice (some ⟨g,0,none⟩) n cv)):=zc3 (World.grownBy.refl _ _) (.inl rfl) k _;have keepB:∀ {m:Nat} {dd:Option Addr×Nat} {l:List UInt8},zdv w 0 dd.1 m dd.2 l→zdv (w.setCell ⟨g,k,none⟩ (.slice A v.length c)) 0 dd.1 m dd.2 l:=fun hO=>⟨hO.hn,hO.own.grown hG (zd2 hO.own h.vals.own (by decide))⟩
 refine⟨h.blk.grown hG (zd3 h.blk h.vals.own hT),h.inF,⟨h.ents.hn,h.ents.hd,h.ents.own.grown hG (zd2 h.ents.own h.vals.own (by decide)),h.ents.inF,fun j E d h1 h2=>⟨keepB (h.ents.data j E d h1 h2).1,(h.ents.data j E d h1 h2).2⟩⟩,?_,h.fe,?_⟩
 · exact h.vals.store zhd (by decide) (v:=v) (d:=(A,c)) (u:= .slice A v.length c) rfl hk hv' hF
 · intro x hx;rcases List.mem_or_eq_of_mem_set hx with hx | rfl
   · exact h.fv x hx
   · exact hfit
end
end
section
open Go.RowKit
theorem zhg (E:Ent)(A:Option Addr)(n c:Nat)(w:World):Calls Tryz.prog 85 #[.agg (entV E A n c)] w fun e w'=>e= .returned (.int .u32 (readE E.acc))∧ Below w.heap.size w w':=by
 obtain⟨ix,sub,nm,ty,acc,mp,st,mx,lo,hi,df⟩:=E;unfold entV;go_enter Tryz.func85,Tryz.ntmps85
 go_wp2_with fail
 all_goals (go_ret;exact⟨zat (by simp_all [readE];try omega),zc5 (Below.refl _ _) _⟩)
theorem zhh (E:Ent)(A:Option Addr)(n c:Nat)(w:World):Calls Tryz.prog 144 #[.agg (entV E A n c)] w fun e w'=>e= .returned (.int .u32 (writeE E.acc))∧ Below w.heap.size w w':=by
 obtain⟨ix,sub,nm,ty,acc,mp,st,mx,lo,hi,df⟩:=E;unfold entV;go_enter Tryz.func144,Tryz.ntmps144
 go_wp2_with fail
 all_goals (go_ret;exact⟨zat (by simp_all [writeE];try omega),zc5 (Below.refl _ _) _⟩)
theorem zhi (E F:Ent)(A B:Option Addr)(n c m d:Nat)(w:World):Calls Tryz.prog 40 #[.agg (entV E A n c),.agg (entV F B m d)] w fun e w'=>e= .returned (.bool (beforeB E.ix E.sub F.ix F.sub))∧ Below w.heap.size w w':=by
 obtain⟨ix,sub,nm,ty,acc,mp,st,mx,lo,hi,df⟩:=E;obtain⟨ix',sub',nm',ty',acc',mp',st',mx',lo',hi',df'⟩:=F;unfold entV;go_enter Tryz.func40,Tryz.ntmps40
 go_wp2_with fail
 all_goals (go_ret;exact⟨zau (by rw[Bool.eq_iff_iff];simp_all [beforeB];try omega),zc5 (zc5 (Below.refl _ _) _) _⟩)
end
section
section
open Go.RowKit
theorem zhj (A:Option Addr)(n c:Nat)(l:List UInt8)(w:World)(hn:n=l.length)(hl:n≤35184372088832)(hs:Sl w A (l.map bv)) :
 Calls Tryz.prog 42 #[.slice A n c] w fun e w'=> ∃A' c',e= .returned (.slice A' n c')∧ zdv w' w.heap.size A' n c' l∧Below w.heap.size w w':=by
 have H1:=zak hn;clear hn;go_enter Tryz.func42,Tryz.ntmps42
 go_wp2_with (at_builtin;refine zdw _ rfl _ (.tmp 3) rfl w.heap.size _ _ _ _ rfl (zdv.nil _ _) _ _ _ l rfl H1.out hs (by omega) (Nat.le_refl _) n (by omega) ?_;intro A3 c3 w3 hown3 _ _ hb3)
 go_ret
 exact⟨_,_,rfl,by simpa using hown3,hb3⟩
section
variable {F:Nat→Prop} {p n cl cv:Nat} {Av:Option Addr} {L:List Ent} {V:List (List UInt8)} {ds es:List (Option Addr×Nat)} {gl:Nat}
theorem zhk (w:World)(hB:Blk w p 100 #[.slice (some ⟨gl,0,none⟩) n cl,.slice Av n cv]) :
 Calls Tryz.prog 119 #[.pointer (some ⟨p,0,none⟩)] w fun e w'=>e= .returned (.bool true)∧ w=w':=by
 obtain⟨ej,ek⟩:=zc7 hB;have fD:=hB.frozen;go_enter Tryz.func119,Tryz.ntmps119
 go_wp2_with fail
 go_ret
 exact⟨rfl,rfl⟩
theorem zhl (w:World)(hB:Blk w p 100 #[.slice (some ⟨gl,0,none⟩) n cl,.slice Av n cv]) :
 Calls Tryz.prog 58 #[.pointer (some ⟨p,0,none⟩)] w fun e w'=>e= .returned (.int .i64 n)∧ w=w':=by
 have HT:=zak (zhk w hB);obtain⟨ej,ek⟩:=zc7 hB;have fD:=hB.frozen;go_enter Tryz.func58,Tryz.ntmps58
 go_wp2_with fail
 refine HT.out.mono ?_;rintro e w1 ⟨rfl,rfl⟩;go_wp2_with fail
 go_ret
 exact⟨rfl,rfl⟩
theorem zhm (k:Nat)(ix sub:Int)(w:World)(hD:DB 100 w F p (some ⟨gl,0,none⟩) n cl Av cv L V ds es) :
 Calls Tryz.prog 147 #[.pointer (some ⟨p,0,none⟩),.int .i64 k,.int .i64 ix,.int .i64 sub] w fun e w'=>e= .returned (.bool (hereB L[k]? ix sub))∧ w=w':=by
 have HL:=zak (zhl w hD.blk);have hB:=hD.blk;have hn:=hD.ents.hn;by_cases hk:k < n
 · obtain⟨E,hE⟩:∃E,L[k]? =some E:=⟨L[k]'(by omega),List.getElem?_eq_getElem _⟩;obtain⟨g,d,hA,hlt,hd,hO,hfit,c0,c1,c2,c3,c4,c5,c6,c7,c8,c9,c10⟩:=hD.ent hE;injection hA with hA
   injection hA with hA
   subst hA;rw[hE];clear c2 c3 c4 c5 c6 c7 c8 c9 c10;clear hn hE hd hO hfit hD hlt;obtain⟨ej,ek⟩:=zc7 hB;have fD:=hB.frozen;go_enter Tryz.func147,Tryz.ntmps147
   go_wp2_with fail
   refine HL.out.mono ?_;rintro e w1 ⟨rfl,rfl⟩;go_wp2_with fail
   all_goals (go_ret;refine⟨zau ?_,rfl⟩;go_light;simp_all [hereB];try (rw[Bool.eq_iff_iff];simp))
 · have hE:L[k]? =none:=List.getElem?_eq_none (by omega);rw[hE];clear hn hE hD;obtain⟨ej,ek⟩:=zc7 hB;have fD:=hB.frozen;go_enter Tryz.func147,Tryz.ntmps147
   go_wp2_with fail
   refine HL.out.mono ?_;rintro e w1 ⟨rfl,rfl⟩;go_wp2_with fail
   go_ret
   exact⟨rfl,rfl⟩
theorem zhn (k:Int)(ix sub:Int)(w:World)(hD:DB 100 w F p (some ⟨gl,0,none⟩) n cl Av cv L V ds es) :
 Calls Tryz.prog 148 #[.pointer (some ⟨p,0,none⟩),.int .i64 k,.int .i64 ix,.int .i64 sub] w fun e w'=>e= .returned (.bool (nearZ L k ix))∧ w=w':=by
 have HL:=zak (zhl w hD.blk);have hB:=hD.blk;have hn:=hD.ents.hn;by_cases hk0:0≤k
 · obtain⟨k,rfl⟩:=Int.eq_ofNat_of_zero_le hk0;have hR:nearZ L (k:Nat) ix=nearB L[k]? ix:=by simp[nearZ]
   rw[hR];clear hk0 hR;by_cases hk:k < n
   · obtain⟨E,hE⟩:∃E,L[k]? =some E:=⟨L[k]'(by omega),List.getElem?_eq_getElem _⟩;obtain⟨g,d,hA,hlt,hd,hO,hfit,c0,c1,c2,c3,c4,c5,c6,c7,c8,c9,c10⟩:=hD.ent hE;injection hA with hA
     injection hA with hA
     subst hA;rw[hE];clear c1 c2 c3 c4 c5 c6 c7 c8 c9 c10;clear hn hE hd hO hfit hD hlt;obtain⟨ej,ek⟩:=zc7 hB;have fD:=hB.frozen;go_enter Tryz.func148,Tryz.ntmps148
     go_wp2_with fail
     refine HL.out.mono ?_;rintro e w1 ⟨rfl,rfl⟩;go_wp2_with fail
     go_ret
     refine⟨zau ?_,rfl⟩
     go_light
     simp_all [nearB]
     try rfl
   · have hE:L[k]? =none:=List.getElem?_eq_none (by omega);rw[hE];clear hn hE hD;obtain⟨ej,ek⟩:=zc7 hB;have fD:=hB.frozen;go_enter Tryz.func148,Tryz.ntmps148
     go_wp2_with fail
     refine HL.out.mono ?_;rintro e w1 ⟨rfl,rfl⟩;go_wp2_with fail
     go_ret
     exact⟨rfl,rfl⟩
 · have hR:nearZ L k ix=false:=by simp[nearZ];intro h;omega
   rw[hR];have hk':k < 0:=by omega
   clear hn hD hk0 hR;obtain⟨ej,ek⟩:=zc7 hB;have fD:=hB.frozen;go_enter Tryz.func148,Tryz.ntmps148
   go_wp2_with fail
   go_ret
   exact⟨rfl,rfl⟩
end
end
section
open Go.RowKit
def plE (ix sub:Int):Ent:=⟨ix,sub,⟨#[]⟩,0,0,false,false,0,0,0,[]⟩
section
variable {F:Nat→Prop} {p n cl cv:Nat} {Av:Option Addr} {L:List Ent} {V:List (List UInt8)} {ds es:List (Option Addr×Nat)} {gl:Nat}
theorem zho (ix sub:Int)(w:World)(hD:DB 100 w F p (some ⟨gl,0,none⟩) n cl Av cv L V ds es)(hs:SortedE L)(hn:n≤1000) :
 Calls Tryz.prog 146 #[.pointer (some ⟨p,0,none⟩),.int .i64 ix,.int .i64 sub] w fun e w'=>e= .returned (.int .i64 (seekL L ix sub))∧ Below w.heap.size w w':=by
 have HS:=zak hs;have HN:=zak hD.ents.hn;obtain⟨s,hse⟩:∃s,s=seekL L ix sub:=⟨_,rfl⟩;have hsl:s≤n:=by rw[hse,HN.out];exact zbj L ix sub
 rw[←hse];have HSE:=zak hse;clear hse hs;have hB1:=hD.blk.alloc (.cells (entV (plE ix sub) none 0 0) 90);have hbw:=zc5 (Below.refl w.heap.size w) (.cells (entV (plE ix sub) none 0 0) 90);have q:=zdg w 90 (entV (plE ix sub) none 0 0);go_enter Tryz.func146,Tryz.ntmps146
 go_wp2_with fail
 refine (zhl _ hB1).mono ?_;rintro e w1 ⟨rfl,rfl⟩;go_wp2_with fail
 go_loopw [8,9] (fun lo hi wr=> ∃a b,lo= .int .i64 (a:Nat)∧ hi= .int .i64 (b:Nat)∧ a≤s∧s≤b∧b≤n∧Below (w.heap.size+1) (w.alloc (.cells (entV (plE ix sub) none 0 0) 90)) wr) (fun lo hi _=>(intOf hi).toNat - (intOf lo).toNat)
 case atStart=>exact⟨0,n,rfl,rfl,by omega,hsl,Nat.le_refl _,Below.refl _ _⟩
 case round=>
  obtain⟨a,b,rfl,rfl,ha,hb,hbn,hbr⟩:=hrel;by_cases hlt:a < b
  · obtain⟨m,hm⟩:∃m,m=(a+b) / 2:=⟨_,rfl⟩;have h2:((a:Int)+(b:Int)) / 2=(m:Int):=by omega
    have hm1:m < n:=by omega
    have hm2:a≤m∧m < b:=by omega
    obtain⟨hm3,hm4⟩:=hm2;have HM:=zak hm;clear hm;have hbw1:=hbw.trans (hbr.mono (Nat.le_succ _));have hDr:=hD.below hbw1;obtain⟨E,hE⟩:∃E,L[m]? =some E:=⟨L[m]'(by rw[←HN.out];exact hm1),List.getElem?_eq_getElem _⟩;have HBE:=zak (zbm L ix sub HS.out m E hE);obtain⟨g,d,hA,zg,_,_,_,c0,c1,c2,c3,c4,c5,c6,c7,c8,c9,c10⟩:=hDr.ent hE;injection hA with hA
    injection hA with hA
    subst hA;have hBr:=hDr.blk;have zp:=hBr.lt;have q1:=q.below hbr (Nat.lt_succ_self _);have zq:=q1.lt;have hidx:=zdl hm1;obtain⟨i1,i2,i3⟩:=hidx;unfold entV plE at q1;simp only[] at q1;obtain⟨cF,cG,cH,cU,cV,cX,cY,cZ,da,dc,cD⟩:=zdc q1;have dh:=q1.frozen;obtain⟨dR,dS⟩:=zc7 hBr;have ez:=hBr.frozen;clear hE hDr;go_wp2_with fail
    refine wp_region_held_drew (S:=(fun w'=>(∀qA:Addr,qA.block < (wr).heap.size→w'.cell? qA=(wr).cell? qA)∧ Below (wr).heap.size (wr) w')) (by kernel_rfl) ?hS1 (fun hHeld=>?rest1)
    case hS1=>exact kSn
    case' rest1=>skip
    iterate 8 (refine tkN ?_;try simp only[PqL,Act.put])
    refine kRd 8 (fun K hK=>?_)
    go_simp
    refine (zhi E (plE ix sub) d.1 none E.df.length d.2 0 0 _).mono ?_;rintro e w2 ⟨rfl,hb2⟩;dsimp only;refine hK.out _ _ ?hS12 (fun hHeld=>?rest12)
    case hS12=>exact kSn
    case' rest12=>(clear hK K;try simp only[PqL,Act.put])
    refine wpAnyH_done (by kernel_rfl) ?_ _;have hEnd:=hHeld.2
    repeat (clear hHeld)
    have hb3:=hbr.trans (hEnd.mono (by have:=hbr.size;simpa using this));cases hbe:befE E ix sub
    · have hsm:s≤m:=by
       have:=HBE.out
       rw[hbe,←HSE.out] at this
       simpa using this.symm
      have HB:=zak hbe;have hbe':beforeB E.ix E.sub (plE ix sub).ix (plE ix sub).sub=false:=hbe;rw[hbe'];clear hbe hbe' HBE;go_wp2_with fail
      go_roundw
      case rel=>exact⟨a,m,rfl,rfl,ha,hsm,by omega,hb3⟩
      case measure=>simp[intOf];omega
    · have hsm:m < s:=by
       have:=HBE.out
       rw[hbe,←HSE.out] at this
       simpa using this.symm
      have HB:=zak hbe;have hbe':beforeB E.ix E.sub (plE ix sub).ix (plE ix sub).sub=true:=hbe;rw[hbe'];clear hbe hbe' HBE;go_wp2_with fail
      go_roundw
      case rel=>exact⟨m+1,b,by go_num,rfl,by omega,hb,hbn,hb3⟩
      case measure=>simp[intOf];omega
  · go_wp2_with fail
    go_ret
    refine⟨zat (by omega),hbw.trans (hbr.mono (by omega))⟩
end
end
section
open Go.RowKit
section
variable {F:Nat→Prop} {p n cl cv:Nat} {Av:Option Addr} {L:List Ent} {V:List (List UInt8)} {ds es:List (Option Addr×Nat)} {gl:Nat}
theorem zhp (ix sub:Int)(w:World)(hD:DB 100 w F p (some ⟨gl,0,none⟩) n cl Av cv L V ds es)(hs:SortedE L)(hn:n≤1000) :
 Calls Tryz.prog 200 #[.pointer (some ⟨p,0,none⟩),.int .i64 ix,.int .i64 sub] w fun e w'=>e= .returned (.tuple #[.int .i64 (locK L ix sub),.bool (hasL L ix sub)])∧ Below w.heap.size w w':=by
 have HC:=zak (zbv L ix sub hs);have HS:=zak hs;have HD:=zak hD;clear hs hD;go_enter Tryz.func200,Tryz.ntmps200
 go_wp2_with fail
 refine (zho ix sub _ HD.out HS.out hn).mono ?_;rintro e w1 ⟨rfl,hb1⟩;go_wp2_with fail
 refine (zhm _ ix sub _ (HD.out.below hb1)).mono ?_;rintro e w2 ⟨rfl,rfl⟩;cases h:hereB L[seekL L ix sub]? ix sub
 · have HF:Hid (locK L ix sub=0∧hasL L ix sub=false):=zak (by
    have:=HC.out
    rw[h] at this;unfold locK hasL;rcases this with ⟨h1,_⟩ | ⟨_,_,h1⟩ | ⟨_,_,_,h1⟩ | ⟨_,_,_,h1⟩
    · cases h1
    all_goals (rw[h1];exact⟨rfl,rfl⟩))
   clear h;go_wp2_with fail
   go_ret2
   refine⟨?_,hb1⟩;rw[HF.out.1,HF.out.2]
   rfl
 · have HF:Hid (locK L ix sub=seekL L ix sub∧hasL L ix sub=true):=zak (by
    have:=HC.out
    rw[h] at this;unfold locK hasL;rcases this with ⟨_,h1,_⟩ | ⟨h1,_⟩ | ⟨h1,_⟩ | ⟨h1,_⟩
    · rw[h1];exact⟨rfl,by simp⟩
    all_goals cases h1)
   clear h;go_wp2_with fail
   go_ret2
   refine⟨?_,hb1⟩;rw[HF.out.1,HF.out.2]
   rfl
theorem zhq (ix sub:Int)(w:World)(hD:DB 100 w F p (some ⟨gl,0,none⟩) n cl Av cv L V ds es)(hs:SortedE L)(hn:n≤1000) :
 Calls Tryz.prog 84 #[.pointer (some ⟨p,0,none⟩),.int .i64 ix,.int .i64 sub] w fun e w'=>e= .returned (.tuple #[.int .i64 (locK L ix sub),.int .u32 (codeL L ix sub)])∧ Below w.heap.size w w':=by
 have HC:=zbv L ix sub hs;have HS:=zak hs;have HD:=zak hD;have HL:seekL L ix sub≤n:=by rw[hD.ents.hn];exact zbj L ix sub
 clear hs hD;go_enter Tryz.func84,Tryz.ntmps84
 go_wp2_with fail
 refine (zhk _ HD.out.blk).mono ?_;rintro e w1 ⟨rfl,rfl⟩;go_wp2_with fail
 refine (zho ix sub _ HD.out HS.out hn).mono ?_;rintro e w1 ⟨rfl,hb1⟩;have HD1:=zak (HD.out.below hb1);rcases HC with ⟨h1,h2,h3⟩ | ⟨h1,h2,h3⟩ | ⟨h1,h2,h3,h4⟩ | ⟨h1,h2,h3,h4⟩
 · have HF:Hid (locK L ix sub=seekL L ix sub∧codeL L ix sub=0):=zak (by unfold locK codeL;rw[h2];exact⟨rfl,if_pos (by omega)⟩);have H1:=zak h1;clear h1 h2 h3;go_wp2_with fail
   refine (zhm _ ix sub _ HD1.out).mono ?_;rintro e w2 ⟨rfl,rfl⟩;rw[H1.out];go_wp2_with fail
   go_ret2
   refine⟨?_,hb1⟩;rw[HF.out.1,HF.out.2]
   rfl
 · have HF:Hid (locK L ix sub=0∧codeL L ix sub=101253137):=zak (by unfold locK codeL;rw[h3];exact⟨rfl,rfl⟩);have H1:=zak h1;have H2:=zak h2;clear h1 h2 h3;go_wp2_with fail
   refine (zhm _ ix sub _ HD1.out).mono ?_;rintro e w2 ⟨rfl,rfl⟩;rw[H1.out];go_wp2_with fail
   refine (zhn _ ix sub _ HD1.out).mono ?_;rintro e w2 ⟨rfl,rfl⟩;rw[H2.out];go_wp2_with fail
   go_ret2
   refine⟨?_,hb1⟩;rw[HF.out.1,HF.out.2]
   rfl
 · have HF:Hid (locK L ix sub=0∧codeL L ix sub=101253137):=zak (by unfold locK codeL;rw[h4];exact⟨rfl,rfl⟩);have H1:=zak h1;have H2:=zak h2;have H3:=zak h3;clear h1 h2 h3 h4;go_wp2_with fail
   refine (zhm _ ix sub _ HD1.out).mono ?_;rintro e w2 ⟨rfl,rfl⟩;rw[H1.out];go_wp2_with fail
   refine (zhn _ ix sub _ HD1.out).mono ?_;rintro e w2 ⟨rfl,rfl⟩;rw[H2.out];go_wp2_with fail
   refine (zhn _ ix sub _ HD1.out).mono ?_;rintro e w2 ⟨rfl,rfl⟩;rw[H3.out];go_wp2_with fail
   go_ret2
   refine⟨?_,hb1⟩;rw[HF.out.1,HF.out.2]
   rfl
 · have HF:Hid (locK L ix sub=0∧codeL L ix sub=100794368):=zak (by unfold locK codeL;rw[h4];exact⟨rfl,rfl⟩);have H1:=zak h1;have H2:=zak h2;have H3:=zak h3;clear h1 h2 h3 h4;go_wp2_with fail
   refine (zhm _ ix sub _ HD1.out).mono ?_;rintro e w2 ⟨rfl,rfl⟩;rw[H1.out];go_wp2_with fail
   refine (zhn _ ix sub _ HD1.out).mono ?_;rintro e w2 ⟨rfl,rfl⟩;rw[H2.out];go_wp2_with fail
   refine (zhn _ ix sub _ HD1.out).mono ?_;rintro e w2 ⟨rfl,rfl⟩;rw[H3.out];go_wp2_with fail
   go_ret2
   refine⟨?_,hb1⟩;rw[HF.out.1,HF.out.2]
   rfl
end
end
end
section
open Go.RowKit
theorem Blk.setAll {w:World}{g:Nat}{t:TypeId}(vs:List Value):∀(pre:List Value) (cs:Array Value),cs.size=pre.length+vs.length→(∀i,i < pre.length→cs[i]? =pre[i]?)→ Blk w g t cs→Blk (w.setCells g pre.length vs) g t (pre ++ vs).toArray:=by
 induction vs generalizing w with
 | nil=>
   intro pre cs hs hp hB
   have:cs=(pre ++ []).toArray:=by
    apply Array.ext_getElem?;intro i;by_cases hi:i < pre.length
    · rw[hp i hi];simp
    · rw[Array.getElem?_eq_none (by simp at hs;omega)];simp;omega
   rw[←this];exact hB
 | cons v vs ih=>
   intro pre cs hs hp hB;have h:=ih (w:=w.setCell ⟨g,pre.length,none⟩ v) (pre ++ [v]) (cs.setIfInBounds pre.length v) (by simp at hs ⊢;omega) (by
    intro i hi;rw[Array.getElem?_setIfInBounds];simp at hi;by_cases he:pre.length=i
    · subst he;rw[if_pos rfl,if_pos (by simp at hs;omega)]
      simp
    · rw[if_neg he,hp i (by omega),List.getElem?_append_left (by omega)]) (hB.set_ _ _)
   simp only[List.length_append,List.length_cons,List.length_nil,Nat.zero_add,List.append_assoc,List.singleton_append] at h;exact h
theorem Blk.all {w:World}{g:Nat}{t:TypeId}{cs:Array Value}(hB:Blk w g t cs)(vs:List Value)(hs:vs.length=cs.size):Blk (w.setCells g 0 vs) g t vs.toArray:=by
 have:=Blk.setAll vs [] cs (by simpa using hs.symm) (by intro i hi;simp at hi) hB
 simpa using this
end
section
section
open Go.RowKit
theorem zhr (n:Nat)(h:n < 18446744073709551616):wrap64 (n:Int)=sgnN 8 n:=by
 unfold wrap64;simp[sgnN];split<;>omega
theorem zhs (n:Nat)(h:n < 18446744073709551616):wrap64 (IntKind.u64.wrap (n:Int))=sgnN 8 n:=by
 unfold wrap64;rw[IntKind.wrap_u64];simp[sgnN];split<;>omega
theorem zht (n:Nat)(w:World)(h:n < 256):Calls Tryz.prog 243 #[.int .u64 n,.int .i64 8] w fun e w'=>e= .returned (.int .i64 (sgnN 1 n))∧ w=w':=by
 have H:=zak h;clear h;go_enter Tryz.func243,Tryz.ntmps243
 go_wp2_with fail
 go_ret
 exact⟨zat (by exact za0 n H.out),rfl⟩
theorem zhu (n:Nat)(w:World)(h:n < 65536):Calls Tryz.prog 243 #[.int .u64 n,.int .i64 16] w fun e w'=>e= .returned (.int .i64 (sgnN 2 n))∧ w=w':=by
 have H:=zak h;clear h;go_enter Tryz.func243,Tryz.ntmps243
 go_wp2_with fail
 go_ret
 exact⟨zat (by exact za1 n H.out),rfl⟩
theorem zhv (n:Nat)(w:World)(h:n < 4294967296):Calls Tryz.prog 243 #[.int .u64 n,.int .i64 32] w fun e w'=>e= .returned (.int .i64 (sgnN 4 n))∧ w=w':=by
 have H:=zak h;clear h;go_enter Tryz.func243,Tryz.ntmps243
 go_wp2_with fail
 go_ret
 exact⟨zat (by exact za2 n H.out),rfl⟩
theorem zhw (n:Nat)(w:World)(h:U64 n):Calls Tryz.prog 243 #[.int .u64 n,.int .i64 64] w fun e w'=>e= .returned (.int .i64 (sgnN 8 n))∧ w=w':=by
 have H:=zak h;clear h;go_enter Tryz.func243,Tryz.ntmps243
 go_wp2_with fail
 go_ret
 refine⟨zat (zhs n H.out),rfl⟩
theorem zhx (wd:Int)(n:Nat)(w:World)(hw:Wd wd)(h:n < 256 ^ wd.toNat):Calls Tryz.prog 243 #[.int .u64 n,.int .i64 (8 * wd)] w fun e w'=>e= .returned (.int .i64 (sgnN wd n))∧ w=w':=by
 rcases hw with rfl | rfl | rfl | rfl
 · exact zht n w (by simpa using h)
 · exact zhu n w (by simpa using h)
 · exact zhv n w (by simpa using h)
 · exact zhw n w (by simpa [U64] using h)
theorem zhy (A:Option Addr)(n c:Nat)(l:List UInt8)(wd:Int)(w:World)(hw:Wd wd)(hn:n=l.length)(hwn:wd=(n:Int))(hc:n≤c)(hs:Sl w A (l.map bv)) :
 Calls Tryz.prog 230 #[.slice A n c,.int .i64 0,.int .i64 wd] w fun e w'=>e= .returned (.tuple #[.int .i64 (sgnN wd (leN l)),.int .i64 0])∧ w=w':=by
 have h8:1≤wd∧wd≤8:=by rcases hw with rfl | rfl | rfl | rfl<;>omega
 obtain⟨h1,h8⟩:=h8;have HW:=zak hw;have hlt:=zan l;rw[←hn,show n=wd.toNat by omega] at hlt;have HG:=zak (zex A n c l 0 wd w hn hc (by omega) (by omega) (by omega) h1 h8 hs);have HE:=zak (show (l.drop (Int.toNat 0)).take wd.toNat=l by rw[List.take_of_length_le (by simp;omega)];rfl);have HL:=zak hlt;clear hw hlt hn hwn hs;go_enter Tryz.func230,Tryz.ntmps230
 go_wp2_with fail
 refine HG.out.mono ?_;rintro e w1 ⟨rfl,rfl⟩;rw[HE.out];go_wp2_with fail
 refine (zhx wd (leN l) _ HW.out HL.out).mono ?_;rintro e w1 ⟨rfl,rfl⟩;go_wp2_with fail
 go_ret2
 exact⟨rfl,rfl⟩
end
section
open Go.RowKit
end
section
open Go.RowKit
end
end
end Go.Proofs.YtkkpjbjmhaecjaaGreat
