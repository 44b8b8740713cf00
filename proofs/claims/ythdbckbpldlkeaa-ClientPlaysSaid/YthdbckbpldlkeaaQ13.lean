/- None -/
import Derived.Test.YthdbckbpldlkeaaQ12
namespace Go.Proofs.Ythdbckbpldlkeaa
set_option linter.unusedVariables false
set_option linter.unusedSimpArgs false
set_option linter.unnecessarySimpa false
section
open Go.RowKit Go.Maps
set_option maxRecDepth 100000
set_option maxHeartbeats 4000000
def frF (f:Frm) (d:Option Addr×Nat):List Value:= [.int .i64 f.id,.bool f.re,.slice d.1 f.data.length d.2]
theorem ze9 (f:Frm) (d:Option Addr×Nat):(frF f d).length=3:=rfl
theorem zfa (f:Frm) (d:Option Addr×Nat):∀ u ∈ frF f d,u.oneCell'=true:=by
 intro u hu
 simp[frF] at hu
 rcases hu with rfl | rfl | rfl<;>rfl
theorem zfb:(Try.prog.info? 34).map (fun i=>(i.zero,i.size,i.bytes))=some (some (.agg #[.int .i64 0,.bool false,.slice none 0 0]),3,40):= by kernel_rfl
def zfc (ds:List (Option Addr×Nat)):Prop:=ds.Pairwise (fun a b=> ∀ g,a.1=some (⟨g,0,none⟩:Addr)→ b.1≠some ⟨g,0,none⟩)
theorem zfc.snoc {ds:List (Option Addr×Nat)} (h:zfc ds) {d:Option Addr×Nat} {N:Nat} (h1:∀ e ∈ ds,∀ g,e.1=some (⟨g,0,none⟩:Addr)→ g < N) (h2:FIn (fun g=>N≤g) d.1):zfc (ds ++ [d]):= by
 unfold zfc
 rw[List.pairwise_append]
 refine⟨h,List.pairwise_singleton _ _,?_⟩
 intro a ha b hb g hg he
 simp at hb
 subst hb
 have:=h1 a ha g hg
 have:=h2 g he
 omega
theorem zfd {α:Type} {f: α→Option Addr×Nat→List Value} {k:Nat} {e:TypeId} {dat: α→List UInt8} {w:World} {F:Nat→Prop} {A:Option Addr} {n c:Nat} {L:List α} {ds:List (Option Addr×Nat)} (h:zcj f k e dat w F A n c L ds):∀ d ∈ ds,∀ g,d.1=some (⟨g,0,none⟩:Addr)→ g < w.heap.size:=by
 intro d hd g hg
 obtain⟨j,hj,rfl⟩:= List.getElem_of_mem hd
 obtain⟨v,hv⟩:∃ v,L[j]? =some v:=⟨L[j]'(by rw[← h.hd];exact hj),List.getElem?_eq_getElem _⟩
 exact ((h.data j v _ hv (List.getElem?_eq_getElem hj)).1.own.fin g hg).2
def zfe (w:World) (F:Nat→Prop) (A:Option Addr) (n c:Nat) (L:List Frm) (ds:List (Option Addr×Nat)):Prop:=zcj frF 3 34 Frm.data w F A n c L ds∧zfc ds
theorem zfe.nil (w:World) (F:Nat→Prop):zfe w F none 0 0 [] []:= ⟨zcj.nil _ _,List.Pairwise.nil⟩
theorem zfe.below {w w':World} {F:Nat→Prop} {A:Option Addr} {n c:Nat} {L:List Frm} {ds:List (Option Addr×Nat)} (h:zfe w F A n c L ds) (hb:Below w.heap.size w w'):zfe w' F A n c L ds:=⟨h.1.below hb,h.2⟩
theorem zfe.mono {w:World} {F G:Nat→Prop} {A:Option Addr} {n c:Nat} {L:List Frm} {ds:List (Option Addr×Nat)} (h:zfe w F A n c L ds) (hG:∀ g,g < w.heap.size→F g→G g):zfe w G A n c L ds:=⟨h.1.mono hG,h.2⟩
def SlM (w:World) (A:Option Addr) (L:List Ms):Prop:= ∀ j M,L[j]? =some M→ ∃ b off Aj cj,A=some ⟨b,off,none⟩∧ (w.cell? ⟨b,off+j * 14+0,none⟩=some (.int .i64 M.kind)∧ w.cell? ⟨b,off+j * 14+1,none⟩=some (.int .i64 M.ix)∧ w.cell? ⟨b,off+j * 14+2,none⟩=some (.int .i64 M.sub)∧ w.cell? ⟨b,off+j * 14+3,none⟩=some (.bool M.tg)∧ w.cell? ⟨b,off+j * 14+4,none⟩=some (.bool M.la)∧ w.cell? ⟨b,off+j * 14+5,none⟩=some (.bool M.cr)∧ w.cell? ⟨b,off+j * 14+6,none⟩=some (.bool M.sz)∧ w.cell? ⟨b,off+j * 14+7,none⟩=some (.int .u32 (M.size:Nat))∧ w.cell? ⟨b,off+j * 14+8,none⟩=some (.int .u32 (M.code:Nat))∧ w.cell? ⟨b,off+j * 14+9,none⟩=some (.slice Aj M.data.length cj)∧ w.cell? ⟨b,off+j * 14+10,none⟩=some (.int .i64 M.sq)∧ w.cell? ⟨b,off+j * 14+11,none⟩=some (.int .i64 M.bl)∧ w.cell? ⟨b,off+j * 14+12,none⟩=some (.int .i64 M.em)∧ w.cell? ⟨b,off+j * 14+13,none⟩=some (.int .u16 (M.sum:Nat)))∧ Sl w Aj (M.data.map bv)
theorem SlM.below {w w':World} {A:Option Addr} {L:List Ms} (h:SlM w A L) (hb:Below w.heap.size w w'):SlM w' A L:=by
 intro j M hM
 obtain⟨b,off,Aj,cj,hA,⟨c0,c1,c2,c3,c4,c5,c6,c7,c8,c9,c10,c11,c12,c13⟩,hs⟩:= h j M hM
 have k:∀ {p v},w.cell? p=some v→w'.cell? p=some v:=fun hc=>(hb.cell (zal hc)).trans hc
 exact⟨b,off,Aj,cj,hA,⟨k c0,k c1,k c2,k c3,k c4,k c5,k c6,k c7,k c8,k c9,k c10,k c11,k c12,k c13⟩,hs.below hb⟩
theorem zff {w:World} {g:Nat} {M:Ms} {A:Option Addr} {n c:Nat} (hB:Blk w g 63 (msV M A n c)) (hn:n=M.data.length) (hs:Sl w A (M.data.map bv)):SlM w (some ⟨g,0,none⟩) [M]:= by
 intro j N hN
 cases j with
 | succ j=>simp at hN
 | zero=>
   simp at hN
   subst hN
   subst hn
   exact⟨g,0,A,c,rfl,⟨hB.cell 0 rfl,hB.cell 1 rfl,hB.cell 2 rfl,hB.cell 3 rfl,hB.cell 4 rfl,hB.cell 5 rfl,hB.cell 6 rfl,hB.cell 7 rfl,hB.cell 8 rfl,hB.cell 9 rfl,hB.cell 10 rfl,hB.cell 11 rfl,hB.cell 12 rfl,hB.cell 13 rfl⟩,hs⟩
theorem zfg {w:World} {F:Nat→Prop} {A:Option Addr} {n c:Nat} {L:List Ms} {ds:List (Option Addr×Nat)} (h:OwnM w F A n c L ds):SlM w A L:=by
 intro j M hM
 obtain⟨d,hd,hO,_⟩:= h.elem hM
 obtain⟨g,hA,_,hc⟩:= h.cells ze6 hM hd (by omega)
 refine⟨g,0,d.1,d.2,hA,?_,hO.sl⟩
 simp only[Nat.zero_add]
 exact⟨hc 0 _ rfl,hc 1 _ rfl,hc 2 _ rfl,hc 3 _ rfl,hc 4 _ rfl,hc 5 _ rfl,hc 6 _ rfl,hc 7 _ rfl,hc 8 _ rfl,hc 9 _ rfl,hc 10 _ rfl,hc 11 _ rfl,hc 12 _ rfl,hc 13 _ rfl⟩
theorem zfh (id:Int) (L:List Ms) (k:Nat) (M:Ms) (h:L[k]? =some M):frmL id (L.take (k+1))=if canB M=true then frmL id (L.take k) ++ [⟨id,false,laidB M⟩] else frmL id (L.take k):= by
 obtain⟨hk,hx⟩:= List.getElem?_eq_some_iff.1 h
 rw[List.take_succ_eq_append_getElem hk,hx]
 unfold frmL
 rw[List.filter_append,List.map_append]
 by_cases hc:canB M=true
 · rw[if_pos hc,List.filter_cons_of_pos hc];rfl
 · rw[if_neg hc,List.filter_cons_of_neg hc];simp
theorem zfi {α:Type} {f: α→Option Addr×Nat→List Value} {k:Nat} {e:TypeId} {dat: α→List UInt8} {w:World} {F:Nat→Prop} {A:Option Addr} {n c g:Nat} {L:List α} {ds:List (Option Addr×Nat)} (h:zcj f k e dat w F A n c L ds) (hg:Value.ownBlock (.slice A n c)=some g):F g:=by
 rcases h.own.shape with ⟨rfl,_⟩ | ⟨q,rfl,_⟩
 · simp[Value.ownBlock] at hg
 · simp[Value.ownBlock] at hg
   subst hg
   exact h.inF _ rfl
theorem tfr8:(5:TypeId)≠ 34:=by decide
def MsOk (M:Ms):Prop:=M.size≤4294967295∧M.code≤4294967295∧M.sum≤65535
def SendR (id:Int) (L:List Ms) (W:World) (e:Ending) (W':World):Prop:=
 ∃ A' n' c' ds,e= .returned (.slice A' n' c')∧ zfe W' (fun g=>W.heap.size≤g) A' n' c' (frmL id L) ds∧Below W.heap.size W W'
theorem zfj (p:Nat) (id:Int) (L:List Ms) (A:Option Addr) (n c:Nat) (W:World) (h1:W.cell? ⟨p,1,none⟩=some (.int .i64 id)) (hn:n=L.length) (hL:SlM W A L) (hu:∀ M ∈ L,MsOk M) (hl:n≤1000) :
 Calls Try.prog 28 #[.pointer (some ⟨p,0,none⟩),.slice A n c] W (SendR id L W):= by
 have HL:=zak hL
 have HU:=zak hu
 have HN:=zak hn
 have hz:=zal h1
 simp only at hz
 clear hL hu hn
 obtain⟨i0,hi0,hz0,hz1,hz2⟩:= info_parts zfb
 go_enter Try.func28,Try.ntmps28
 go_wp2_with fail
 go_loopw [5,7,8,9,12,13,14,15,16,17,18,19,20,21,22,23,24,25,26,27,28,29,30,31,32] (fun v5 _ _ _ v12 _ _ _ _ _ _ _ _ _ _ _ _ _ _ _ _ _ _ _ _ wr=> ∃ k A' m' c' ds,v12= .int .i64 (k:Nat)∧ v5= .slice A' m' c'∧k≤n∧Hid (zfe wr (fun g=>W.heap.size≤g) A' m' c' (frmL id (L.take k)) ds∧Below W.heap.size W wr)) (fun _ _ _ _ v12 _ _ _ _ _ _ _ _ _ _ _ _ _ _ _ _ _ _ _ _ _=>n - (intOf v12).toNat)
 case atStart=>exact⟨0,none,0,0,[],rfl,rfl,Nat.zero_le _,zak ⟨zfe.nil _ _,Below.refl _ _⟩⟩
 case round=>
  obtain⟨k,A',m',c',ds,rfl,rfl,hk,HR⟩:= hrel
  by_cases hlt:k < n
  · obtain⟨M,hM⟩:∃ M,L[k]? =some M:=⟨L[k]'(by rw[← HN.out];exact hlt),List.getElem?_eq_getElem _⟩
    have HM:=zak hM
    obtain⟨b,off,Aj,cj,hA,⟨c0,c1,c2,c3,c4,c5,c6,c7,c8,c9,c10,c11,c12,c13⟩,hs⟩:= (HL.out.below HR.out.2) k M hM
    subst hA
    replace c0:wr.cell? ⟨b,off+k * 14,none⟩=some (.int .i64 M.kind):= c0
    have HS:=zak (hs.alloc (.cells (msV M Aj M.data.length cj) 63))
    have q:=zbu wr 63 (msV M Aj M.data.length cj)
    have HB:=zak (zbp HR.out.2 (.cells (msV M Aj M.data.length cj) 63))
    have HO:=zak (HR.out.1.below (zbp (Below.refl _ _) (.cells (msV M Aj M.data.length cj) 63)))
    have zr:=HR.out.2.size
    have hU:=HU.out M (List.mem_of_getElem? hM)
    have h1r:wr.cell? ⟨p,1,none⟩=some (.int .i64 id):= (HR.out.2.cell hz).trans h1
    have HBD:=zak (fun W' (h:Sl W' Aj (M.data.map bv))=> zev M Aj M.data.length cj W' rfl h hU.1 hU.2.1 hU.2.2)
    unfold msV at q HB HO HBD HS
    obtain⟨q_c0,q_c1,q_c2,q_c3,q_c4,q_c5,q_c6,q_c7,q_c8,q_c9,q_c10,q_c11,q_c12,q_c13⟩:= zbs q
    have q_f:=q.frozen
    clear hM hs hU
    go_wp2_with fail
    refine (HBD.out _ HS.out).mono ?_
    rintro e w2 ⟨A2,n2,c2,rfl,hO2,hb2⟩
    have HB2:=zak (HB.out.trans (hb2.mono (Nat.le_trans zr (by simp))))
    have HO2:=zak (HO.out.below hb2)
    have z2:wr.heap.size+1≤w2.heap.size:=by have:=hb2.size;simpa using this
    have h12:w2.cell? ⟨p,1,none⟩=some (.int .i64 id):= (HB2.out.cell hz).trans h1
    have zp2:p < w2.heap.size:=by omega
    have HST:=zak (zfh id L k M HM.out)
    clear h1r hb2
    by_cases hc:canB M=true
    · rw[if_pos hc] at hO2 ⊢
      rw[if_pos hc] at HST
      obtain rfl:n2=(laidB M).length:=hO2.hn
      have HOd:=zak (hO2.mono (Nat.zero_le _))
      have HFd:=zak (hO2.own.fin.mono (G:=fun g=>W.heap.size≤g) (fun g h=>by have:=h.1;simp at this;omega))
      have hml:m'=(frmL id (L.take k)).length:=HO2.out.1.hn
      have HAP:=zak (HO.out.2.snoc (d:=(A2,c2)) (N:=wr.heap.size+1) (fun e he g hg=>Nat.lt_succ_of_lt (zfd HR.out.1.1 e he g hg)) (hO2.own.fin.mono (fun g h=>by have:=h.1;simpa using this)))
      have hml2:(frmL id (L.take k)).length≤n:=by
       have h1:=List.length_filter_le canB (L.take k)
       have h2:=List.length_take_le k L
       unfold frmL
       rw[List.length_map]
       omega
      have hm1:m'≤1000:=by omega
      clear hc hO2 hml hml2
      go_wp2_with (at_builtin;refine zck _ rfl _ _ 37 rfl ze9 zfa tfr8 i0 _ 40 Try.underlying37 hi0 hz0 hz1 hz2 rfl (by omega) (by omega) A' m' c' (frmL id (L.take k)) ds rfl (HO2.out.1.below (zbp (Below.refl _ _) _)) ⟨id,false,laidB M⟩ (A2,c2) _ rfl (by exact (zbu _ _ _).sl) (HOd.out.alloc _) HFd.out (fun g h=>by simp at h;omega) (by omega) (m'+1) rfl ?_;intro A4 c4 w4 hO4 hg4 hr4)
      have hgb:Below W.heap.size (w2.alloc (.cells #[.int .i64 id,.bool false,.slice A2 (laidB M).length c2] 34)) w4:=(zcd.of_grown (F:=fun g=>W.heap.size≤g) hg4 (fun g e=>zfi HO2.out.1 e)).below (by simp;omega) (fun i h=>h)
      exact⟨⟨k+1,A4,m'+1,c4,_,by congr 1,rfl,by omega,zak ⟨⟨by rw[HST];exact hO4,HAP.out⟩,(zbp HB2.out _).trans hgb⟩⟩,by simp only[intOf];omega⟩
    · rw[if_neg hc] at hO2 ⊢
      rw[if_neg hc] at HST
      clear hc hO2
      go_wp2_with fail
      exact⟨⟨k+1,A',m',c',ds,by congr 1,rfl,by omega,zak ⟨by rw[HST];exact HO2.out,HB2.out⟩⟩,by simp only[intOf];omega⟩
  · obtain rfl:k=n:=by omega
    go_wp2_with fail
    go_ret
    refine⟨A',m',c',ds,rfl,?_,HR.out.2⟩
    have:=HR.out.1
    rwa [HN.out,List.take_length] at this
end
section
open Go.RowKit
set_option maxRecDepth 100000
set_option maxHeartbeats 4000000
theorem zfk (k:Int) (hk:k=7∨k=8) (w:World):Calls Try.prog 50 #[.int .i64 k] w fun e w'=>e= .returned (.tuple #[.int .i64 (if k=7 then 1408 else 1536),.bool true])∧ w=w':=by
 rcases hk with rfl | rfl
 · go_enter Try.func50,Try.ntmps50
   go_wp2_with fail
   go_ret2
   exact⟨rfl,rfl⟩
 · go_enter Try.func50,Try.ntmps50
   go_wp2_with fail
   go_ret2
   exact⟨rfl,rfl⟩
theorem zfl (n a b:Int) (w:World):Calls Try.prog 51 #[.int .i64 n,.int .i64 a,.int .i64 b] w fun e w'=>e= .returned (.bool (decide (a≤n) && decide (n≤b)))∧ w=w':=by
 by_cases h:a≤n
 · have hd:=decide_eq_true h
   go_enter Try.func51,Try.ntmps51
   go_wp2_with fail
   go_ret
   exact⟨by simp[h],rfl⟩
 · have hd:=decide_eq_false h
   go_enter Try.func51,Try.ntmps51
   go_wp2_with fail
   go_ret
   exact⟨by simp[h],rfl⟩
theorem zfm (k:Int) (hk:k=7∨k=8) (node:Int) (h:1≤node∧node≤127) (w:World) :
 Calls Try.prog 24 #[.agg #[.int .i64 k,.int .i64 0,.int .i64 node]] w fun e w'=>e= .returned (.tuple #[.int .i64 ((if k=7 then 1408 else 1536)+node),.int .i64 0])∧ Below w.heap.size w w':=by
 have q:=zbu w 59 #[.int .i64 k,.int .i64 0,.int .i64 node]
 have hbw:=zbp (Below.refl w.heap.size w) (.cells #[.int .i64 k,.int .i64 0,.int .i64 node] 59)
 have HB:=zak hbw
 clear hbw
 obtain⟨h1,h2⟩:= h
 rcases hk with rfl | rfl
 all_goals
  obtain⟨q_c0,q_c1,q_c2⟩:= zbr q
  have q_f:=q.frozen
  go_enter Try.func24,Try.ntmps24
  go_wp2_with fail
  refine (zfk _ (by simp) _).mono ?_
  rintro e w1 ⟨rfl,rfl⟩
  go_wp2_with fail
  refine (zfl _ _ _ _).mono ?_
  rintro e w1 ⟨rfl,rfl⟩
  have hd:(decide ((1:Int)≤ node) && decide (node≤127))=true:=by simp[h1,h2]
  rw[hd]
  go_wp2_with fail
  go_ret2
  refine⟨?_,HB.out⟩
  simp
theorem zfn (k:Int) (hk:k=7∨k=8) (node:Int) (h: ¬ (1≤node∧node≤127)) (w:World) :
 Calls Try.prog 24 #[.agg #[.int .i64 k,.int .i64 0,.int .i64 node]] w fun e w'=>e= .returned (.tuple #[.int .i64 0,.int .i64 1])∧ Below w.heap.size w w':=by
 have q:=zbu w 59 #[.int .i64 k,.int .i64 0,.int .i64 node]
 have hbw:=zbp (Below.refl w.heap.size w) (.cells #[.int .i64 k,.int .i64 0,.int .i64 node] 59)
 have HB:=zak hbw
 have hd:Hid ((decide ((1:Int)≤ node) && decide (node≤127))=false):= zak (by simp only[Bool.and_eq_false_iff,decide_eq_false_iff_not];omega)
 clear hbw h
 rcases hk with rfl | rfl
 all_goals
  obtain⟨q_c0,q_c1,q_c2⟩:= zbr q
  have q_f:=q.frozen
  go_enter Try.func24,Try.ntmps24
  go_wp2_with fail
  refine (zfk _ (by simp) _).mono ?_
  rintro e w1 ⟨rfl,rfl⟩
  go_wp2_with fail
  refine (zfl _ _ _ _).mono ?_
  rintro e w1 ⟨rfl,rfl⟩
  rw[hd.out]
  go_wp2_with fail
  go_ret2
  exact⟨rfl,HB.out⟩
end
section
open Go.RowKit Go.Maps
set_option maxRecDepth 100000
set_option maxHeartbeats 4000000
def EOk (S:CliS) (R:CR):Prop:=R.E.cr=S.ec∧R.E.sz=S.es∧R.E.size=S.en∧S.en≤4294967295
def CV_ (w:World) (G:Nat→Prop) (p m:Nat) (S:CliS):Prop:=
 ∃ R:CR,Blk w p 65 (cliL S m R).toArray∧WM w m S.wk∧EOk S R∧(S.wk≠0→zb7 w 0 R.A R.n R.c S.b∧FIn G R.A)∧ R.n2=S.data.length∧(S.data≠ []→ zb7 w 0 R.A2 R.n2 R.c2 S.data∧FIn G R.A2)
def zf4 (w:World) (G:Nat→Prop) (p m:Nat) (S':CliS) (L:List Frm) (e:Ending) (w':World):Prop:=
 ∃ N As ns cs ds,e= .returned (.slice As ns cs)∧ zfe w' (fun g=>N≤g) As ns cs L ds∧w.heap.size≤N∧CV_ w' (fun g=>(G g∨w.heap.size≤g)∧ g < N) p m S'∧zcd (fun q=>q=p∨q=m∨G q) w w'
theorem CV_.cm {w:World} {G:Nat→Prop} {p m:Nat} {S:CliS} (h:CV_ w G p m S):∃ R:CR,CM w G p m S.wk (cliL S m R) [] [] w∧EOk S R∧R.n2=S.data.length:=by
 obtain⟨R,hB,hm,hE,_,hn,_⟩:= h
 exact⟨R,⟨hB,hm,zcd.refl _ _,by simp,by simp⟩,hE,hn⟩
theorem CV_.cm1 {w:World} {G:Nat→Prop} {p m:Nat} {S:CliS} (h:CV_ w G p m S) (h0:S.wk≠0):∃ R:CR,CM w G p m S.wk (cliL S m R) [] [⟨R.A,R.n,R.c,S.b⟩] w∧EOk S R∧R.n2=S.data.length:=by
 obtain⟨R,hB,hm,hE,hb,hn,_⟩:= h
 refine⟨R,⟨hB,hm,zcd.refl _ _,by simp,?_⟩,hE,hn⟩
 intro r hr
 simp at hr
 subst hr
 exact⟨(hb h0).1,(hb h0).2.mono (fun g h=> .inl h)⟩
section
variable {w0 W W':World} {G:Nat→Prop} {p m:Nat} {wk:Int} {ks:List KB} {rs:List RB} {S:CliS} {R:CR}
theorem zfo {N:Nat} (h:CM w0 G p m S.wk (cliL S m R) ks rs W) (hE:EOk S R) (hb:S.wk≠0→⟨R.A,R.n,R.c,S.b⟩ ∈ rs) (hn:R.n2=S.data.length) (hd:S.data≠ []→ ⟨R.A2,R.n2,R.c2,S.data⟩ ∈ rs) (hN:W.heap.size≤N) :
 CV_ W (fun g=>(G g∨w0.heap.size≤g)∧ g < N) p m S:=by
 have k:∀ r ∈ rs,zb7 W 0 r.A r.n r.c r.l∧FIn (fun g=>(G g∨w0.heap.size≤g)∧ g < N) r.A:=fun r hr=>⟨(h.rows r hr).1,fun g hg=>⟨(h.rows r hr).2 g hg,Nat.lt_of_lt_of_le ((h.rows r hr).1.own.fin g hg).2 hN⟩⟩
 exact⟨R,h.blk,h.wm,hE,fun h0=>k _ (hb h0),hn,fun h0=>k _ (hd h0)⟩
theorem CV_.keep {w w':World} {G H:Nat→Prop} {p m:Nat} {S:CliS} (h:CV_ w G p m S) (hk:∀ q,q=p∨q=m∨G q→q < w.heap.size→w'.heap[q]? =w.heap[q]?) (hH:∀ q,q < w.heap.size→G q→H q):CV_ w' H p m S:=by
 obtain⟨R,hB,hm,hE,hb,hn,hd⟩:= h
 have k:∀ {A:Option Addr} {n c:Nat} {l:List UInt8},zb7 w 0 A n c l∧FIn G A→zb7 w' 0 A n c l∧FIn H A:=fun {A n c l} h=>⟨⟨h.1.hn,h.1.own.keep fun g _ hlt hA=>hk g (.inr (.inr (h.2 g hA))) hlt⟩,fun g hg=>hH g (h.1.own.fin g hg).2 (h.2 g hg)⟩
 exact⟨R,(hk p (.inl rfl) hB.lt).trans hB,hm.keep (hk m (.inr (.inl rfl)) hm.lt),hE,fun h0=>k (hb h0),hn,fun h0=>k (hd h0)⟩
theorem zfp {L:List Ms} {e:Ending} (h:CM w0 G p m S.wk (cliL S m R) ks rs W) (hE:EOk S R) (hb:S.wk≠0→⟨R.A,R.n,R.c,S.b⟩ ∈ rs) (hn:R.n2=S.data.length) (hd:S.data≠ []→ ⟨R.A2,R.n2,R.c2,S.data⟩ ∈ rs) (hs:SendR (1536+S.nd) L W e W') :
 zf4 w0 G p m S (cSend S L) e W':=by
 obtain⟨As,ns,cs,ds,rfl,hO,hbel⟩:= hs
 exact⟨W.heap.size,As,ns,cs,ds,rfl,hO,h.size,(zfo h hE hb hn hd (Nat.le_refl _)).keep (fun q _ hq=>hbel.block q hq) (fun _ _ h=>h),(h.step hbel).only⟩
theorem zfq (h:CM w0 G p m S.wk (cliL S m R) ks rs W) (hE:EOk S R) (hb:S.wk≠0→⟨R.A,R.n,R.c,S.b⟩ ∈ rs) (hn:R.n2=S.data.length) (hd:S.data≠ []→ ⟨R.A2,R.n2,R.c2,S.data⟩ ∈ rs) :
 zf4 w0 G p m S [] (.returned (.slice none 0 0)) W:=
 ⟨W.heap.size,none,0,0,[],rfl,zfe.nil _ _,h.size,zfo h hE hb hn hd (Nat.le_refl _),h.only⟩
end
section
variable {w0:World} {G:Nat→Prop} {p m:Nat} {ks:List KB} {rs:List RB}
theorem zfr (ix sub:Int) (code:Nat) (h:code≤4294967295):∀ M ∈ [abM ix sub code],MsOk M:=by
 intro M hM
 simp at hM
 subst hM
 exact⟨Nat.zero_le _,h,Nat.zero_le _⟩
theorem zfs (S:CliS) (R:CR) (code:Nat) (W:World) (h:CM w0 G p m S.wk (cliL S m R) ks rs W) (hw:0≤S.wk∧S.wk≤21) (hE:EOk S R) (hc:code≤4294967295) :
 Calls Try.prog 37 #[.pointer (some ⟨p,0,none⟩),.int .u32 (code:Nat)] W (zf4 w0 G p m (cEnd S code []) (cFailL S code)):= by
 have HC:=zak h
 have HE:=zak hE
 have HW:=zak hw
 have HOK:=zak (zfr S.ix S.sub code hc)
 obtain⟨P,hP⟩:∃ P,P=zf4 w0 G p m (cEnd S code []) (cFailL S code):= ⟨_,rfl⟩
 rw[← hP]
 have HP:=zak hP
 clear h hE hw hc hP
 go_enter Try.func37,Try.ntmps37
 go_wp2_with fail
 refine (zc1 code none 0 0 [] W HC.out rfl rfl HW.out rfl (by omega) (fun _ _=>Sl.nil _ _)).mono ?_
 rintro e W1 ⟨rfl,A',c',h1⟩
 have H1:Hid (CM w0 G p m 0 (cliL (cEnd S code []) m { R with A2:=A',n2:=0,c2:=c' }) ks (⟨A',0,c',[]⟩ :: rs) W1):= zak h1
 have z1:=h1.lt
 have b4:W1.cell? ⟨p,4,none⟩=some (.int .i64 S.ix):= H1.out.blk.cell 4 rfl
 have b5:W1.cell? ⟨p,5,none⟩=some (.int .i64 S.sub):= H1.out.blk.cell 5 rfl
 have b1:W1.cell? ⟨p,1,none⟩=some (.int .i64 (1536+S.nd)):= H1.out.blk.cell 1 rfl
 clear h1 HC
 go_upto_region 2 with fail
 have HD1:=zak (H1.out.drew.alloc (.cells (msV (abM S.ix S.sub code) none 0 0) 63))
 have HB1:=zak (zbu W1.drew 63 (msV (abM S.ix S.sub code) none 0 0))
 unfold msV abM at HD1 HB1
 refine wp_region_held_drew (S:=(fun w'=>(∀ qA:Addr,qA.block < (W1).heap.size→w'.cell? qA=(W1).cell? qA)∧ Below (W1).heap.size (W1) w')) (by kernel_rfl) ?hS1 (fun hHeld=>?rest1)
 case hS1=>((try dsimp only);(((try go_split_ands);refine zbn ?_;all_goals exact bl)))
 case' rest1=>skip
 iterate 13 (refine tkN ?_;try simp only[PqL,Act.put])
 refine wpAnyH_ready (rs:= [13]) (by kernel_rfl) (by simp) ?_
 refine AllReadyH.cons (o:=_) rfl (fun K hK=>?_) .nil
 go_simp
 refine hK.out _ _ ?hS17 (fun hHeld=>?rest17)
 case hS17=>((try dsimp only);(((try go_split_ands);refine zbn ?_;all_goals exact bl)))
 case' rest17=>(clear hK K;try simp only[PqL,Act.put])
 refine wpAnyH_ready (rs:= [14]) (by kernel_rfl) (by simp) ?_
 refine AllReadyH.cons (o:=_) rfl (fun K hK=>?_) .nil
 go_simp
 refine (zfj p (1536+S.nd) [abM S.ix S.sub code] _ 1 1 _ (HD1.out.blk.cell 1 rfl) rfl (zff (M:=abM S.ix S.sub code) HB1.out rfl (Sl.nil _ _)) HOK.out (by omega)).mono ?_
 rintro e w2 ⟨As,ns,cs,ds,rfl,hO,hb⟩
 have HF:=zak (zfp (S:=cEnd S code []) (R:={ R with A2:=A',n2:=0,c2:=c' }) HD1.out HE.out (fun h=>absurd rfl h) rfl (fun h=>absurd rfl h) ⟨As,ns,cs,ds,rfl,hO,hb⟩)
 clear hO
 refine hK.out _ _ ?hS20 (fun hHeld=>?rest20)
 case hS20=>((try dsimp only);(((try go_split_ands);refine zbn ?_;all_goals exact bl)))
 case' rest20=>(clear hK K;try simp only[PqL,Act.put])
 refine tkH 15 ?_
 try simp only[PqL,Act.put]
 refine wpAnyH_done (by kernel_rfl) ?_ _
 have hEnd:=hHeld.2
 repeat (clear hHeld)
 go_wp2_with fail
 rw[HP.out]
 exact HF.out
theorem zft (tg:Bool):∀ M ∈ [usegM tg],MsOk M:=by
 intro M hM
 simp at hM
 subst hM
 exact⟨Nat.zero_le _,Nat.zero_le _,Nat.zero_le _⟩
theorem zfu (S:CliS) (R:CR) (W:World) (h:CM w0 G p m S.wk (cliL S m R) ks rs W) (hw:0≤S.wk∧S.wk≤21) (hE:EOk S R) (hb:⟨R.A,R.n,R.c,S.b⟩ ∈ rs) (hn:R.n2=S.data.length) (hd:S.data= []) :
 Calls Try.prog 56 #[.pointer (some ⟨p,0,none⟩)] W (zf4 w0 G p m (cMoreS S) (cMoreL S)):= by
 have HC:=zak h
 have HE:=zak hE
 have HW:=zak hw
 have HB:=zak hb
 have HN:=zak hn
 have HD:=zak hd
 obtain⟨P,hP⟩:∃ P,P=zf4 w0 G p m (cMoreS S) (cMoreL S):= ⟨_,rfl⟩
 rw[← hP]
 have HP:=zak hP
 clear h hE hw hP hb hn hd
 go_enter Try.func56,Try.ntmps56
 go_wp2_with fail
 refine (zcw 15 W HC.out rfl HW.out ⟨by omega,by omega⟩).mono ?_
 rintro e W1 ⟨rfl,h1⟩
 have H1:Hid (CM w0 G p m (cMoreS S).wk (cliL (cMoreS S) m R) ks rs W1):= zak h1
 have z1:=h1.lt
 have b20:W1.cell? ⟨p,20,none⟩=some (.bool S.tg):= H1.out.blk.cell 20 rfl
 have HD1:=zak (H1.out.alloc (.cells (msV (usegM S.tg) none 0 0) 63))
 have HB1:=zak (zbu W1 63 (msV (usegM S.tg) none 0 0))
 unfold msV usegM at HD1 HB1
 clear h1 HC
 go_wp2_with fail
 refine (zfj p (1536+S.nd) [usegM S.tg] _ 1 1 _ (HD1.out.blk.cell 1 rfl) rfl (zff (M:=usegM S.tg) HB1.out rfl (Sl.nil _ _)) (zft _) (by omega)).mono ?_
 rintro e w2 ⟨As,ns,cs,ds,rfl,hO,hb⟩
 have HF:=zak (zfp (S:=cMoreS S) (R:=R) (L:= [usegM S.tg]) HD1.out HE.out (fun _=>HB.out) HN.out (fun h=>absurd HD.out h) ⟨As,ns,cs,ds,rfl,hO,hb⟩)
 clear hO hb
 go_wp2_with fail
 rw[HP.out]
 exact HF.out
theorem zfv (S:CliS) (R:CR) (k:Int) (W:World) (h:CM w0 G p m S.wk (cliL S m R) ks rs W) (hE:EOk S R) :
 Calls Try.prog 79 #[.pointer (some ⟨p,0,none⟩),.int .i64 k] W fun e W'=>e= .returned (.bool (cSzB S k))∧ W=W':=by
 obtain⟨hE1,hE2,hE3,hE4⟩:= hE
 have w64:wrap64 (S.en:Int)=(S.en:Int):= by unfold wrap64;omega
 have z:=h.lt
 have b27:W.cell? ⟨p,27,none⟩=some (.bool S.es):= by rw[← hE2];exact h.blk.cell 27 rfl
 have b28:W.cell? ⟨p,28,none⟩=some (.int .u32 (S.en:Nat)):= by rw[← hE3];exact h.blk.cell 28 rfl
 have HR:Hid (cSzB S k=(!S.es || decide (k=(S.en:Int)))):= zak rfl
 clear h hE1 hE2 hE3 hE4
 obtain⟨es,hes⟩:∃ es,es=S.es:=⟨_,rfl⟩
 rw[← hes] at b27 HR
 cases es
 · clear hes
   go_enter Try.func79,Try.ntmps79
   go_wp2_with fail
   go_ret
   exact⟨by rw[HR.out];rfl,rfl⟩
 · clear hes
   go_enter Try.func79,Try.ntmps79
   go_wp2_with fail
   go_ret
   exact⟨by rw[HR.out];simp;rfl,rfl⟩
theorem zfw (S:CliS) (R:CR) (W:World) (h:CM w0 G p m S.wk (cliL S m R) ks rs W) (hn:R.n=S.b.length) (h1:R.n≤100000) :
 Calls Try.prog 80 #[.pointer (some ⟨p,0,none⟩)] W fun e W'=>e= .returned (.int .i64 (btotal S.b:Nat))∧ W=W':=by
 have b17:W.cell? ⟨p,17,none⟩=some (.slice R.A R.n R.c):= h.blk.cell 17 rfl
 have HT:=zak (za5 S.b R.n hn)
 have hz:=h.lt
 obtain⟨t,ht⟩:∃ t,t=btotal S.b:=⟨_,rfl⟩
 rw[← ht] at HT
 rw[← ht]
 obtain⟨n,hnn⟩:∃ n,n=R.n:=⟨_,rfl⟩
 rw[← hnn] at HT b17 h1
 clear hn h ht hnn
 by_cases h7:1 < ((n:Int)+7 - 1) / 7
 · have e:(t:Int)=((n:Int)+7 - 1) / 7:=by have:=HT.out;split at this<;>omega
   have HE:=zak e
   clear e
   go_enter Try.func80,Try.ntmps80
   go_wp2_with fail
   go_ret
   exact⟨by rw[HE.out];rfl,rfl⟩
 · have e:(t:Int)=1:=by have:=HT.out;split at this<;>omega
   have HE:=zak e
   clear e
   go_enter Try.func80,Try.ntmps80
   go_wp2_with fail
   go_ret
   exact⟨by rw[HE.out];rfl,rfl⟩
end
end
end Go.Proofs.Ythdbckbpldlkeaa
