/- None -/
import Derived.Test.YthdbckbpldlkeaaGreatS42
namespace Go.Proofs.YthdbckbpldlkeaaGreat
set_option linter.unusedVariables false
set_option linter.unusedSimpArgs false
set_option linter.unnecessarySimpa false
section
open Go.RowKit Go.Maps
set_option maxRecDepth 100000
set_option maxHeartbeats 8000000
def DRecR (w:World) (G:Nat→Prop) (p ps pb pd:Nat) (X':SdoS) (id:Int) (O:SegO) (e:Ending) (w':World):Prop:=
 ∃ N Y As ns cs ds A n c,e= .returned (.tuple #[.slice As ns cs,.agg #[.int .i64 O.ix,.int .i64 O.sub,.slice A n c],.bool O.wr])∧ w.heap.size≤N∧zgg w' (fun g=>N≤g) As ns cs (frmL id O.ms) ds∧zdq w' w.heap.size A n c O.b∧FIn Y A∧(∀ q,Y q→w.heap.size≤q∧q < N)∧ DV w' (fun g=>((G g∨w.heap.size≤g)∧ ¬ Y g)∧ g < N) p ps pb pd X'∧zdv (fun g=>g=p∨g=ps∨g=pb) w w'
section
variable {F:Nat→Prop} {pd gl n cl cv:Nat} {Av:Option Addr} {L:List Ent} {V:List (List UInt8)} {ds es:List (Option Addr×Nat)} {w:World} {G:Nat→Prop} {p ps pb:Nat} {X:SdoS}
theorem zow (f:Frm) (A:Option Addr) (n c:Nat) (w:World):Calls Tryz.prog 25 #[.pointer none,.agg #[.int .i64 f.id,.bool f.re,.slice A n c]] w fun e w'=>e= .returned (.tuple #[.slice none 0 0,.agg #[.int .i64 0,.int .i64 0,.slice none 0 0],.bool false])∧ Below w.heap.size w w':=by
 have hbw:=zc1 (zc1 (Below.refl w.heap.size w) (.cells #[.int .i64 f.id,.bool f.re,.slice A n c] 62)) (.cells #[.int .i64 0,.int .i64 0,.slice none 0 0] 46)
 have HB:=zak hbw
 obtain⟨k1,k2⟩:= zdc w 62 46 #[.int .i64 f.id,.bool f.re,.slice A n c] #[.int .i64 0,.int .i64 0,.slice none 0 0]
 have zk1:=k1.lt
 have zk2:=k2.lt
 clear hbw
 obtain⟨k1_c0,k1_c1,k1_c2⟩:= zc4 k1
 have k1_f:=k1.frozen
 obtain⟨k2_c0,k2_c1,k2_c2⟩:= zc4 k2
 have k2_f:=k2.frozen
 go_enter Tryz.func25,Tryz.ntmps25
 go_upto_region 1 with fail
 go_quiet (fail)
 go_wp2_with fail
 refine bodyPost_ret (v:= .tuple #[.slice none 0 0,.agg #[.int .i64 0,.int .i64 0,.slice none 0 0],.bool false]) (by simp[results,Tryz.results25,go_sem,k2_c0,k2_c1,k2_c2,k2_f]) rfl ⟨rfl,?_⟩
 all_goals exact bl
end
end
section
open Go.RowKit Go.Maps
set_option maxRecDepth 100000
set_option maxHeartbeats 8000000
def frmV (f:Frm) (A:Option Addr) (n c:Nat):Array Value:= #[.int .i64 f.id,.bool f.re,.slice A n c]
def valZ:Array Value:= #[.int .i64 0,.int .i64 0,.slice none 0 0]
def RX (w:World) (G:Nat→Prop) (p ps pb pd:Nat) (f:Frm) (A:Option Addr) (n c:Nat) (X:SdoS) (W:World):Prop:=
 zdv (fun q=>q=p∨q=ps∨q=pb) w W∧DV W (fun q=>G q∧q < w.heap.size) p ps pb pd X∧Blk W w.heap.size 62 (frmV f A n c)∧ Blk W (w.heap.size+1) 46 valZ∧w.heap.size+2≤W.heap.size
section
variable {w W w':World} {G:Nat→Prop} {p ps pb pd:Nat} {X:SdoS} {f:Frm} {A:Option Addr} {n c:Nat}
theorem rx_mk (h:DV w G p ps pb pd X) (f:Frm) (A:Option Addr) (n c:Nat):RX w G p ps pb pd f A n c X ((w.alloc (.cells (frmV f A n c) 62)).alloc (.cells valZ 46)):= by
 obtain⟨k1,k2⟩:= zdc w 62 46 (frmV f A n c) valZ
 have hb:=zc1 (zc1 (Below.refl w.heap.size w) (.cells (frmV f A n c) 62)) (.cells valZ 46)
 exact⟨zdv.of_below hb,h.step hb,k1,k2,by simp⟩
theorem RX.step (h:RX w G p ps pb pd f A n c X W) (hb:Below W.heap.size W w'):RX w G p ps pb pd f A n c X w':=
 ⟨h.1.step hb,h.2.1.low hb,h.2.2.1.below hb h.2.2.1.lt,h.2.2.2.1.below hb h.2.2.2.1.lt,Nat.le_trans h.2.2.2.2 hb.size⟩
theorem RX.left (h:RX w G p ps pb pd f A n c X W) (hl:p < w.heap.size∧ps < w.heap.size∧pb < w.heap.size) (k:Int):RX w G p ps pb pd f A n c { X with left:=k } (W.setCell ⟨p,4,none⟩ (.int .i64 k)):= by
 have ho:zdv (fun q=>q=p∨q=ps∨q=pb) W (W.setCell ⟨p,4,none⟩ (.int .i64 k)):= zdv.of_set (F:=fun q=>q=p∨q=ps∨q=pb) (.inl rfl) _
 exact⟨h.1.trans ho (fun _ _ h=>h),h.2.1.left_ k,(ho.block _ h.2.2.1.lt (by omega)).trans h.2.2.1,(ho.block _ h.2.2.2.1.lt (by omega)).trans h.2.2.2.1,Nat.le_trans h.2.2.2.2 ho.size⟩
theorem zox (h:DV w G p ps pb pd X) (hin:X.nin≠0) (f:Frm) (A:Option Addr) (n c:Nat) (hn:n=f.data.length) (hr:sdReq X f=false):Calls Tryz.prog 25 #[.pointer (some ⟨p,0,none⟩),.agg #[.int .i64 f.id,.bool f.re,.slice A n c]] w fun e w'=>e= .returned (.tuple #[.slice none 0 0,.agg #[.int .i64 0,.int .i64 0,.slice none 0 0],.bool false])∧ Below w.heap.size w w':=by
 have hbw:=zc1 (zc1 (Below.refl w.heap.size w) (.cells #[.int .i64 f.id,.bool f.re,.slice A n c] 62)) (.cells #[.int .i64 0,.int .i64 0,.slice none 0 0] 46)
 have HB:=zak hbw
 obtain⟨k1,k2⟩:= zdc w 62 46 #[.int .i64 f.id,.bool f.re,.slice A n c] #[.int .i64 0,.int .i64 0,.slice none 0 0]
 have zk1:=k1.lt
 have zk2:=k2.lt
 have zp:=h.lt
 have c2:w.cell? ⟨p,2,none⟩=some (.int .i64 X.nin):= h.blk.cell 2 rfl
 have hcs:f.id≠X.nin∨(f.id=X.nin∧f.re=true)∨ (f.id=X.nin∧f.re=false∧n≠8):= by
  unfold sdReq at hr
  simp only[decide_eq_false_iff_not] at hr
  by_cases h1:f.id=X.nin
  · cases h2:f.re
    · exact .inr (.inr ⟨h1,rfl,fun h3=>hr ⟨h1,h2,by omega⟩⟩)
    · exact .inr (.inl ⟨h1,rfl⟩)
  · exact .inl h1
 have d0:(X.nin == 0)=false:=by simp[hin]
 clear hbw h hr hin hn
 obtain⟨k1_c0,k1_c1,k1_c2⟩:= zc4 k1
 have k1_f:=k1.frozen
 obtain⟨k2_c0,k2_c1,k2_c2⟩:= zc4 k2
 have k2_f:=k2.frozen
 go_enter Tryz.func25,Tryz.ntmps25
 go_upto_region 1 with fail
 rcases hcs with h1 | ⟨h1,h2⟩ | ⟨h1,h2,h3⟩
 · have d1:(f.id != X.nin)=true:=by simp[h1]
   clear h1
   go_quiet (fail)
   go_wp2_with fail
   refine bodyPost_ret (v:= .tuple #[.slice none 0 0,.agg #[.int .i64 0,.int .i64 0,.slice none 0 0],.bool false]) (by simp[results,Tryz.results25,go_sem,k2_c0,k2_c1,k2_c2,k2_f]) rfl ⟨rfl,?_⟩
   all_goals exact bl
 · have d1:(f.id != X.nin)=false:=by simp[h1]
   clear h1
   go_quiet (fail)
   go_wp2_with fail
   refine bodyPost_ret (v:= .tuple #[.slice none 0 0,.agg #[.int .i64 0,.int .i64 0,.slice none 0 0],.bool false]) (by simp[results,Tryz.results25,go_sem,k2_c0,k2_c1,k2_c2,k2_f]) rfl ⟨rfl,?_⟩
   all_goals exact bl
 · have d1:(f.id != X.nin)=false:=by simp[h1]
   have d3:((n:Int) != 8)=true:=by simp;omega
   clear h1 h3
   go_quiet (fail)
   go_wp2_with fail
   refine bodyPost_ret (v:= .tuple #[.slice none 0 0,.agg #[.int .i64 0,.int .i64 0,.slice none 0 0],.bool false]) (by simp[results,Tryz.results25,go_sem,k2_c0,k2_c1,k2_c2,k2_f]) rfl ⟨rfl,?_⟩
   all_goals exact bl
end
end
section
open Go.RowKit Go.Maps
set_option maxRecDepth 100000
set_option maxHeartbeats 8000000
def putVal (w:World) (g:Nat) (ix sub:Int) (A:Option Addr) (n c:Nat):World:=((w.setCell ⟨g,0,none⟩ (.int .i64 ix)).setCell ⟨g,1,none⟩ (.int .i64 sub)).setCell ⟨g,2,none⟩ (.slice A n c)
theorem zoy (w:World) (g:Nat) (ix sub:Int) (A:Option Addr) (n c:Nat):zdv (fun q=>q=g) w (putVal w g ix sub A n c):=
 (((zdv.refl (F:=fun q=>q=g) w).set _ rfl (.int .i64 ix)).set _ rfl (.int .i64 sub)).set _ rfl (.slice A n c)
theorem zoz {w w6:World} {G H Y:Nat→Prop} {N p ps pb pd:Nat} {X X':SdoS} {id:Int} {O:SegO} {As:Option Addr} {ns cs:Nat} {ds:List (Option Addr×Nat)} {A:Option Addr} {n c:Nat} (h0:DV w G p ps pb pd X) (hz:w.heap.size+2≤N) (hF:zgg w6 (fun g=>N≤g) As ns cs (frmL id O.ms) ds) (hO:zdq w6 (w.heap.size+2) A n c O.b) (hY:FIn Y A) (hY2:∀ q,Y q→w.heap.size+2≤q∧q < N) (hD:DV w6 H p ps pb pd X') (hH:∀ q,q < w6.heap.size→H q→((G q∨w.heap.size≤q)∧ ¬ Y q)∧ q < N∧q≠w.heap.size+1) (ho:zdv (fun q=>q=p∨q=ps∨q=pb) w w6) :
 DRecR w G p ps pb pd X' id O (.returned (.tuple #[.slice As ns cs,.agg #[.int .i64 O.ix,.int .i64 O.sub,.slice A n c],.bool O.wr])) (putVal w6 (w.heap.size+1) O.ix O.sub A n c):= by
 have hp:=zoy w6 (w.heap.size+1) O.ix O.sub A n c
 have hl:=h0.lt
 have hbl:∀ q,q < w6.heap.size→q≠w.heap.size+1→(putVal w6 (w.heap.size+1) O.ix O.sub A n c).heap[q]? =w6.heap[q]? :=fun q hq hne=>hp.block q hq hne
 refine⟨N,Y,As,ns,cs,ds,A,n,c,rfl,by omega,⟨hF.1.keep (fun g hg hlt=>hbl g hlt (by omega)),hF.2⟩,⟨hO.hn,(hO.own.keep (fun g hB hlt _=>hbl g hlt (by omega))).mono (by omega)⟩,hY,fun q hq=>⟨by have:=(hY2 q hq).1;omega,(hY2 q hq).2⟩,⟨(hbl p hD.lt.1 (by omega)).trans hD.blk,?_,?_,hD.ne,?_⟩,((ho.setNew (g:=w.heap.size+1) (i:=0) (by omega) (.int .i64 O.ix)).setNew (g:=w.heap.size+1) (i:=1) (by omega) (.int .i64 O.sub)).setNew (g:=w.heap.size+1) (i:=2) (by omega) (.slice A n c)⟩
 · refine hD.seg.kept (fun q hq hlt=>hbl q hlt ?_) hp.size (fun q hlt hq=>⟨(hH q hlt hq).1,(hH q hlt hq).2.1⟩)
   rcases hq with rfl | hq
   · omega
   · exact (hH q hlt hq).2.2
 · refine hD.bkv.keep (fun q hq hlt=>hbl q hlt ?_) hp.size (fun q hlt hq=>⟨(hH q hlt hq).1,(hH q hlt hq).2.1⟩)
   rcases hq with rfl | hq
   · omega
   · exact (hH q hlt hq).2.2
 · exact⟨fun hg=>hg.1.1.elim h0.ng.1 (fun h=>by omega),fun hg=>hg.1.1.elim h0.ng.2.1 (fun h=>by omega),fun hg=>hg.1.1.elim h0.ng.2.2 (fun h=>by omega)⟩
end
section
theorem zo0 (S:BlkS) (h:S.ta≤1000):(bgiveL S).length≤1000:=by
 unfold bgiveL browN
 simp
 omega
theorem zo4 (S:SegS) (c:Nat):(abortL S c).length≤1000:=by
 unfold abortL
 split
 · exact Nat.zero_le _
 · exact Nat.succ_le_succ (Nat.zero_le _)
theorem zo5 (S:BlkS) (c:Nat):(bAbortL S c).length≤1000:=by
 unfold bAbortL
 split
 · exact Nat.zero_le _
 · exact Nat.succ_le_succ (Nat.zero_le _)
theorem zo6 {L:List Ent} {V:List (List UInt8)} {S:SegS} {M:Ms}:(recvO L V S M).ms.length≤1000:=by
 unfold recvO
 split
 · decide
 split
 · unfold downO
   split
   · exact Nat.succ_le_succ (Nat.zero_le _)
   split
   · exact Nat.zero_le _
   · exact Nat.succ_le_succ (Nat.zero_le _)
 split
 · unfold upO
   split
   · exact Nat.succ_le_succ (Nat.zero_le _)
   split
   · exact Nat.succ_le_succ (Nat.zero_le _)
   · exact Nat.succ_le_succ (Nat.zero_le _)
 split
 · unfold partO
   split
   · exact zo4 _ _
   split
   · exact Nat.zero_le _
   · exact Nat.succ_le_succ (Nat.zero_le _)
 split
 · unfold nextO
   split
   · exact zo4 _ _
   · exact Nat.succ_le_succ (Nat.zero_le _)
 split
 · exact Nat.succ_le_succ (Nat.zero_le _)
 · exact Nat.succ_le_succ (Nat.zero_le _)
theorem zo7 {L:List Ent} {V:List (List UInt8)} {S:BlkS} {M:Ms} (hI:BWf S) (hM:BMOk M):(brO L V S M).ms.length≤1000:=by
 unfold brO
 split
 · decide
 split
 · unfold bdownO
   split
   · exact Nat.succ_le_succ (Nat.zero_le _)
   · exact Nat.succ_le_succ (Nat.zero_le _)
 split
 · unfold bupO
   split
   · exact Nat.succ_le_succ (Nat.zero_le _)
   · exact Nat.succ_le_succ (Nat.zero_le _)
 split
 · exact Nat.succ_le_succ (Nat.zero_le _)
 split
 · unfold bpartO
   split
   · exact zo5 _ _
   split
   · exact Nat.zero_le _
   · exact Nat.succ_le_succ (Nat.zero_le _)
 split
 · unfold bendO
   split
   · exact zo5 _ _
   · exact Nat.zero_le _
 split
 · rename_i hk
   exact zo0 S (hI.b4 hk.2).2.2.2
 split
 · unfold backO
   split
   · exact zo5 _ _
   split
   · exact zo0 _ (show M.bl≤1000 from hM.bl.2)
   · exact Nat.succ_le_succ (Nat.zero_le _)
 split
 · exact Nat.zero_le _
 · exact Nat.succ_le_succ (Nat.zero_le _)
theorem zo8 {L:List Ent} {V:List (List UInt8)} {X:SdoS} {M:Ms} (hI:BWf X.bk) (hM:BMOk M):(sdDO L V X M).ms.length≤1000:=by
 unfold sdDO
 split
 · decide
 split
 · split
   · exact zo6
   split
   · exact Nat.succ_le_succ (Nat.zero_le _)
   · exact zo6
 · split
   · exact zo7 hI hM
   split
   · exact Nat.succ_le_succ (Nat.zero_le _)
   · exact zo7 hI hM
end
section
open Go.RowKit Go.Maps
set_option maxRecDepth 100000
set_option maxHeartbeats 8000000
theorem zo9 (L:List Ent) (V:List (List UInt8)) (X:SdoS) (M:Ms):(sdDS L V X M).nin=X.nin∧(sdDS L V X M).nout=X.nout:=by
 unfold sdDS
 split
 · exact⟨rfl,rfl⟩
 split
 · split
   · exact⟨rfl,rfl⟩
   split
   · exact⟨rfl,rfl⟩
   · exact⟨rfl,rfl⟩
 · split
   · exact⟨rfl,rfl⟩
   split
   · exact⟨rfl,rfl⟩
   · exact⟨rfl,rfl⟩
theorem zpa (ks:List Int) (b:List UInt8):(resM ks b).data.length≤b.length:=by
 unfold resM
 split
 · have h:∀ ks,∀ x,ofM ks b=some x→x.data.length≤b.length:=by
    intro ks
    induction ks with
    | nil=>intro x hx;cases hx
    | cons k ks ih=>
      intro x hx
      unfold ofM at hx
      split at hx
      · injection hx with hx
        subst hx
        show (if dataB (formI k)=true then (preM k b).data else []).length≤b.length
        split
        · show ((b.drop (datF (formI k))).take (datN (formI k) (byt b 0))).length≤b.length
          simp
          omega
        · simp
      · exact ih x hx
   cases ho:ofM ks b with
   | none=>simp[msZ]
   | some x=>exact h ks x ho
 · simp[msZ]
section
variable {F:Nat→Prop} {pd gl n cl cv:Nat} {Av:Option Addr} {L:List Ent} {V:List (List UInt8)} {ds es:List (Option Addr×Nat)} {w:World} {G:Nat→Prop} {p ps pb:Nat} {X:SdoS}
theorem zpd (h:DV w G p ps pb pd X) (hW:SdWf X) (hin:X.nin≠0) (hD:DB 107 w F pd (some ⟨gl,0,none⟩) n cl Av cv L V ds es) (hs:SortedE L) (hn:n≤1000) (hv:∀ v ∈ V,v.length≤256) (hF: ¬ F p∧ ¬ F ps∧ ¬ F pb)
 (f:Frm) (A:Option Addr) (m c:Nat) (hm:m=f.data.length) (hc:m≤c) (hA:∀ W,zdv (fun q=>q=p∨q=ps∨q=pb) w W→Sl W A (f.data.map bv)) (hr:sdReq X f=true) :
 Calls Tryz.prog 25 #[.pointer (some ⟨p,0,none⟩),.agg #[.int .i64 f.id,.bool f.re,.slice A m c]] w (DRecR w G p ps pb pd (sdRS L V X f) X.nout (sdRO L V X f)):= by
 obtain⟨P,hP⟩:∃ P,P=DRecR w G p ps pb pd (sdRS L V X f) X.nout (sdRO L V X f):= ⟨_,rfl⟩
 have HP:=zak hP
 rw[← hP]
 obtain⟨h1,h2,h8⟩:f.id=X.nin∧f.re=false∧f.data.length=8:=by unfold sdReq at hr;simpa using hr
 have HR:=zak hr
 have HX:=zak (rx_mk h f A m c)
 have zp:=h.lt
 have HL:=zak zp
 have c2:w.cell? ⟨p,2,none⟩=some (.int .i64 X.nin):= h.blk.cell 2 rfl
 have c4:w.cell? ⟨p,4,none⟩=some (.int .i64 X.left):= h.blk.cell 4 rfl
 have f4:=h.blk.frozen 4
 obtain⟨k1,k2⟩:= zdc w 62 46 #[.int .i64 f.id,.bool f.re,.slice A m c] #[.int .i64 0,.int .i64 0,.slice none 0 0]
 have zk1:=k1.lt
 have zk2:=k2.lt
 have d0:(X.nin == 0)=false:=by simp[hin]
 have d1:(f.id != X.nin)=false:=by simp[h1]
 have d3:((m:Int) != 8)=false:=by simp;omega
 have HD:=zak h
 have HW:=zak hW
 have HDB:=zak hD
 have HSO:=zak hs
 have HN:=zak hn
 have HV:=zak hv
 have HF:=zak hF
 have HM:=zak hm
 have HC:=zak hc
 have HA:=zak hA
 have H8:=zak h8
 clear hP h hW hin hD hs hn hv hF hm hc hA hr h1 h8
 obtain⟨k1_c0,k1_c1,k1_c2⟩:= zc4 k1
 have k1_f:=k1.frozen
 obtain⟨k2_c0,k2_c1,k2_c2⟩:= zc4 k2
 have k2_f:=k2.frozen
 unfold frmV valZ at HX
 rw[h2] at HX
 go_enter Tryz.func25,Tryz.ntmps25
 go_upto_region 1 with fail
 go_quiet (fail)
 go_upto_region 4 with fail
 refine zd8 (P:=RX w G p ps pb pd f A m c { X with left:=50 }) ((HX.out.step (by repeat' (first | with_reducible assumption | with_reducible exact Below.refl _ _ | with_reducible apply zc1 | with_reducible apply zdm | with_reducible apply zdl | (with_reducible apply zc0;with_reducible assumption) | (with_reducible apply zdn;(first | exact Nat.le_refl _ | (simp;done) | omega))))).left HL.out 50) (fun W hX=>?_)
 clear k1_c0 k1_c1 k1_c2 k1_f
 clear k2_c0 k2_c1 k2_c2 k2_f
 clear k1 k2 zk1 zk2 c2 c4 f4 HX d0 d1 d3
 have HX:=zak hX
 have k1:=hX.2.2.1
 have k2:=hX.2.2.2.1
 have zk1:=k1.lt
 have zk2:=k2.lt
 have zW:=hX.2.1.lt
 unfold frmV at k1
 unfold valZ at k2
 obtain⟨k1_c0,k1_c1,k1_c2⟩:= zc4 k1
 have k1_f:=k1.frozen
 obtain⟨k2_c0,k2_c1,k2_c2⟩:= zc4 k2
 have k2_f:=k2.frozen
 have hAW:Sl W A (f.data.map bv):= HA.out W hX.1
 have HRD:=zak (znk A m c f.data hX.2.1 HM.out H8.out HC.out hAW)
 clear hX hAW
 go_wp2_with fail
 refine HRD.out.mono ?_
 rintro e w3 ⟨A3,n3,c3,rfl,hO,hb⟩
 obtain⟨M,hM⟩:∃ M,M=resM (sdKs X f.data) f.data:=⟨_,rfl⟩
 obtain⟨rc,hrc⟩:∃ rc,rc=sdRc X f.data:=⟨_,rfl⟩
 replace hO:zdq w3 W.heap.size A3 n3 c3 M.data:=by rw[hM];exact hO
 rw[show resM (sdKs { X with left:=50 } f.data) f.data=M from hM.symm,show sdRc { X with left:=50 } f.data=rc from hrc.symm]
 have HMq:=zak hM
 have HRC:=zak hrc
 have HX3:=zak (HX.out.step hb)
 have hzW0:=HX.out.2.2.2.2
 have HO:=zak hO
 clear k1_c0 k1_c1 k1_c2 k1_f
 clear k2_c0 k2_c1 k2_c2 k2_f
 clear k1 k2 zk1 zk2 zW HX HRD hM hrc hO
 have k2:=HX3.out.2.2.2.1
 have zk2:=k2.lt
 have zW:=HX3.out.2.1.lt
 unfold valZ at k2
 obtain⟨k2_c0,k2_c1,k2_c2⟩:= zc4 k2
 have k2_f:=k2.frozen
 have HX4:=zak (HX3.out.step (zc1 (Below.refl _ _) (.cells (msV M A3 n3 c3) 102)))
 have hzW:=hb.size
 have HDL:=zak (zov M A3 n3 c3 HX4.out.2.1 ⟨HW.out.sg,HW.out.bk⟩ (by rw[HMq.out];exact znv _ _) (HDB.out.keep (fun g hg hlt=>HX4.out.1.block g hlt (fun e=>by rcases e with rfl | rfl | rfl;exact HF.out.1 hg;exact HF.out.2.1 hg;exact HF.out.2.2 hg))) HSO.out HN.out HV.out HF.out.2 HO.out.hn (by have h1:=HO.out.hn;have h2:=zpa (sdKs X f.data) f.data;rw[← HMq.out] at h2;have h3:=H8.out;omega) (fun W' ho=>((HO.out.alloc _).own.keep (fun g hB hlt _=>ho.block g hlt (by have:=HL.out;omega))).sl))
 have k4:=zdb w3 102 (msV M A3 n3 c3)
 obtain⟨kind,ix,sub,tg,la,cr,sz,size,code,data,sq,bl,em,sum⟩:= M
 unfold msV at HX4 HDL k4 ⊢
 dsimp only at HX4 HDL k4 ⊢
 obtain⟨k4_c0,k4_c1,k4_c2,k4_c3,k4_c4,k4_c5,k4_c6,k4_c7,k4_c8,k4_c9,k4_c10,k4_c11,k4_c12,k4_c13⟩:= zc9 k4
 have k4_f:=k4.frozen
 clear hb
 by_cases h0:rc=0
 · subst h0
   have d0:(((0:Nat):Int) != 0)=false:=rfl
   go_wp2_with fail
   refine HDL.out.mono ?_
   rintro e w5 ⟨Y,As,ns,cs,ds5,A5,n5,c5,rfl,h1,h2,h3,h4,h5,h6⟩
   have hbm:BMOk (⟨kind,ix,sub,tg,la,cr,sz,size,code,data,sq,bl,em,sum⟩:Ms):= by rw[HMq.out];exact znv _ _
   have hok:AllOk (sdDO L V { X with left:=50 } (⟨kind,ix,sub,tg,la,cr,sz,size,code,data,sq,bl,em,sum⟩:Ms)).ms:=zoh HV.out
   have hln:(sdDO L V { X with left:=50 } (⟨kind,ix,sub,tg,la,cr,sz,size,code,data,sq,bl,em,sum⟩:Ms)).ms.length≤1000:=zo8 (X:={ X with left:=50 }) HW.out.bk hbm
   have hS:sdRS L V X f=sdDS L V { X with left:=50 } (⟨kind,ix,sub,tg,la,cr,sz,size,code,data,sq,bl,em,sum⟩:Ms):= by unfold sdRS;rw[if_pos HR.out,if_neg (fun h=>h HRC.out.symm),HMq.out]
   have hQ:sdRO L V X f=sdDO L V { X with left:=50 } (⟨kind,ix,sub,tg,la,cr,sz,size,code,data,sq,bl,em,sum⟩:Ms):= by unfold sdRO;rw[if_pos HR.out,if_neg (fun h=>h HRC.out.symm),HMq.out];rfl
   obtain⟨O,hO9⟩:∃ O,O=sdDO L V { X with left:=50 } (⟨kind,ix,sub,tg,la,cr,sz,size,code,data,sq,bl,em,sum⟩:Ms):= ⟨_,rfl⟩
   rw[← hO9] at h1 h2 hok hln hQ
   rw[← hO9]
   have HS9:=zak hS
   have HQ9:=zak hQ
   have hO3:zdv (fun q=>q=p∨q=ps∨q=pb) w w5:=HX4.out.1.trans (h6.mono (G:=fun q=>q=p∨q=ps∨q=pb) (fun q _ h=> .inr h)) (fun _ _ h=>h)
   have HO3:=zak hO3
   have H1:=zak h1
   have H2:=zak h2
   have H3:=zak h3
   have H4:=zak h4
   have H5:=zak h5
   have k5:Blk w5 (w.heap.size+1) 46 valZ:=(h6.block _ HX4.out.2.2.2.1.lt (by omega)).trans HX4.out.2.2.2.1
   have hz5:=h6.size
   have hz4:=HX4.out.2.2.2.2
   have HZ5:=zak hz5
   have HZ4:=zak hz4
   have hb8:=Below.drew (zc1 (Below.refl w5.heap.size w5) (.cells (outV As ns cs O A5 n5 c5) 100))
   have HB8:=zak hb8
   have k8:=Blk.new w5 100 (outV As ns cs O A5 n5 c5)
   have HFR:=zak (zop (h5.low hb8) (show MsG _ _ Y As ns cs O.ms ds5 from ⟨h1.1.below hb8,h1.2⟩) hok hln)
   clear k4_c0 k4_c1 k4_c2 k4_c3 k4_c4 k4_c5 k4_c6 k4_c7 k4_c8 k4_c9 k4_c10 k4_c11 k4_c12 k4_c13 k4_f
   clear k2_c0 k2_c1 k2_c2 k2_f
   clear k4 k2 zk2 h1 h2 h3 h4 h5 h6 hbm hok hln hS hQ hO9 hO3 hz5 hz4 hb8
   have zk5:=k5.lt
   unfold valZ at k5
   unfold outV at k8 HFR ⊢
   dsimp only at k8 HFR ⊢
   obtain⟨k5_c0,k5_c1,k5_c2⟩:= zc4 k5
   have k5_f:=k5.frozen
   obtain⟨k8_c0,k8_c1,k8_c2,k8_c3,k8_c4⟩:= zc5 k8
   have k8_f:=k8.frozen
   have K8:=zak k8
   have K5:=zak k5
   go_upto_region 8 with fail
   refine wp_region_held_drew (S:=(fun w'=>w'.cell? ⟨w5.heap.size,0,none⟩=some (.slice As ns cs)∧ w'.cell? ⟨w5.heap.size,1,none⟩=some (.bool O.wr)∧ w'.cell? ⟨w5.heap.size,2,none⟩=some (.int .i64 O.ix)∧ w'.cell? ⟨w5.heap.size,3,none⟩=some (.int .i64 O.sub)∧ w'.cell? ⟨w5.heap.size,4,none⟩=some (.slice A5 n5 c5))) (by kernel_rfl) ?hS1 (fun hHeld=>?rest1)
   case hS1=>((try dsimp only);(exact⟨K8.out.cell 0 rfl,K8.out.cell 1 rfl,K8.out.cell 2 rfl,K8.out.cell 3 rfl,K8.out.cell 4 rfl⟩))
   case' rest1=>skip
   iterate 3 (refine tkN ?_;try simp only[PqL,Act.put])
   refine tkH 4 ?_
   try simp only[PqL,Act.put]
   refine tkH 5 ?_
   try simp only[PqL,Act.put]
   refine tkH 6 ?_
   try simp only[PqL,Act.put]
   refine tkH 7 ?_
   try simp only[PqL,Act.put]
   refine wpAnyH_ready (rs:= [3]) (by kernel_rfl) (by simp) ?_
   refine AllReadyH.cons (o:=_) rfl (fun K hK=>?_) AllReadyH.nil
   go_simp
   refine HFR.out.mono ?_
   rintro e w6 ⟨A6,n6,c6,ds6,rfl,h6,hb6⟩
   try dsimp only
   have h8:=K8.out.drew.below hb6 K8.out.drew.lt
   have k6:=((K5.out.below HB8.out zk5).below hb6 (K5.out.below HB8.out zk5).lt)
   have zk6:=k6.lt
   have K9:=zak h8
   have H6:=zak h6
   have HB6:=zak hb6
   have hne:w5.heap.size≠w.heap.size+1:=by have:=HZ4.out;have:=HZ5.out;omega
   have Q9:=zak (fun u0 u1 u2=>((K9.out.far (p:=⟨w.heap.size+1,0,none⟩) hne u0).far (p:=⟨w.heap.size+1,1,none⟩) hne u1).far (p:=⟨w.heap.size+1,2,none⟩) hne u2)
   have hz5:=HZ5.out
   have hz4:=HZ4.out
   have hz8:w5.heap.size≤(w5.alloc (.cells #[.slice As ns cs,.bool O.wr,.int .i64 O.ix,.int .i64 O.sub,.slice A5 n5 c5] 100)).drew.heap.size:=HB8.out.size
   have h6':=H6.out
   rw[(zo9 _ _ _ _).2] at h6'
   have hF6:=zoz (X':=sdDS L V { X with left:=50 } (⟨kind,ix,sub,tg,la,cr,sz,size,code,data,sq,bl,em,sum⟩:Ms)) (id:=X.nout) (O:=O) (Y:=fun q=>Y q∧q < w5.heap.size) HD.out (by omega) h6' (((H2.out.below HB8.out).below HB6.out).mono hz4) (fun q hq=>⟨H3.out q hq,(H2.out.own.fin q hq).2⟩) (fun q hq=>⟨by have:=H4.out q hq.1;omega,by have:=hq.2;omega⟩) ((H5.out.step HB8.out).low HB6.out) (fun q _ hq=>⟨⟨hq.1.1.elim (fun h=> .inl h.1) (fun h=> .inr (by omega)),fun hy=>hq.1.2 hy.1⟩,by have:=hq.2;omega,by have h1:=hq.1.1;have h2:=hz4;rcases h1 with h1 | h1<;>omega⟩) ((HO3.out.step HB8.out).step HB6.out)
   have HF:Hid (P (.returned (.tuple #[.slice A6 n6 c6,.agg #[.int .i64 O.ix,.int .i64 O.sub,.slice A5 n5 c5],.bool O.wr])) (putVal w6 (w.heap.size+1) O.ix O.sub A5 n5 c5)):= zak (by rw[HP.out,HS9.out,HQ9.out];exact hF6)
   clear k5_c0 k5_c1 k5_c2 k5_f
   clear k8_c0 k8_c1 k8_c2 k8_c3 k8_c4 k8_f
   clear k5 k8 h8 h6 hb6 zk5 hF6 h6' hz5 hz4 hz8
   obtain⟨k6_c0,k6_c1,k6_c2⟩:= zc4 k6
   have k6_f:=k6.frozen
   refine hK.out _ _ ?hS11 (fun hHeld=>?rest11)
   case hS11=>((try dsimp only);(exact⟨K9.out.cell 0 rfl,K9.out.cell 1 rfl,K9.out.cell 2 rfl,K9.out.cell 3 rfl,K9.out.cell 4 rfl⟩))
   case' rest11=>(clear hK K;try simp only[PqL,Act.put])
   refine tkH 8 ?_
   try simp only[PqL,Act.put]
   refine wpAnyH_ready (rs:= [9]) (by kernel_rfl) (by simp) ?_
   refine AllReadyH.cons (o:=_) rfl (fun K hK=>?_) AllReadyH.nil
   go_simp
   refine hK.out _ _ ?hS15 (fun hHeld=>?rest15)
   case hS15=>((try dsimp only);(exact⟨(Q9.out _ _ _).cell 0 rfl,(Q9.out _ _ _).cell 1 rfl,(Q9.out _ _ _).cell 2 rfl,(Q9.out _ _ _).cell 3 rfl,(Q9.out _ _ _).cell 4 rfl⟩))
   case' rest15=>(clear hK K;try simp only[PqL,Act.put])
   refine tkH 10 ?_
   try simp only[PqL,Act.put]
   refine wpAnyH_done (by kernel_rfl) ?_ _
   have hEnd:=hHeld.2
   repeat (clear hHeld)
   unfold putVal at HF
   go_wp2_with fail
   refine bodyPost_ret (v:= .tuple #[.slice A6 n6 c6,.agg #[.int .i64 O.ix,.int .i64 O.sub,.slice A5 n5 c5],.bool O.wr]) (by simp[results,Tryz.results25,go_sem,k6_c0,k6_c1,k6_c2,k6_f]) rfl ?_
   exact HF.out
 · have d0:((rc:Int) != 0)=true:=by simp;omega
   have HR0:=zak h0
   clear h0
   go_wp2_with fail
   refine (znf rc HX4.out.2.1).mono ?_
   rintro e w5 ⟨As,ns,cs,ds5,rfl,h1,h2',h3⟩
   have hkc:AllOk (sdAbL { X with left:=50 } rc):= zoi _ _ (by rw[HRC.out];unfold sdRc;(repeat' split)<;> decide)
   have HS5:=zak (zop h2' h1 hkc (by rw[zon];decide))
   have H2:=zak h2'
   have hO3:zdv (fun q=>q=p∨q=ps∨q=pb) w w5:=HX4.out.1.trans (h3.mono (G:=fun q=>q=p∨q=ps∨q=pb) (fun q _ h=> .inr h)) (fun _ _ h=>h)
   have HO3:=zak hO3
   have k5:Blk w5 (w.heap.size+1) 46 valZ:=(h3.block _ HX4.out.2.2.2.1.lt (by omega)).trans HX4.out.2.2.2.1
   have hz5:=h3.size
   have K5:=zak k5
   clear k4_c0 k4_c1 k4_c2 k4_c3 k4_c4 k4_c5 k4_c6 k4_c7 k4_c8 k4_c9 k4_c10 k4_c11 k4_c12 k4_c13 k4_f
   clear k2_c0 k2_c1 k2_c2 k2_f
   clear k4 k2 zk2 h1 h2' h3 hkc hO3
   have zk5:=k5.lt
   unfold valZ at k5
   obtain⟨k5_c0,k5_c1,k5_c2⟩:= zc4 k5
   have k5_f:=k5.frozen
   dsimp only
   go_wp2_with fail
   refine HS5.out.mono ?_
   rintro e w6 ⟨A6,n6,c6,ds6,rfl,h6,hb6⟩
   rw[(zoo _).2.1] at h6
   have hS:sdRS L V X f=sdAbS { X with left:=50 }:= by unfold sdRS;rw[if_pos HR.out,if_pos (by rw[← HRC.out];exact HR0.out)]
   have hQ:sdRO L V X f=outL (sdAbL { X with left:=50 } rc):= by unfold sdRO;rw[if_pos HR.out,if_pos (by rw[← HRC.out];exact HR0.out),← HRC.out];rfl
   have hz3:=HX4.out.2.2.2.2
   have F:=zoz (X':=sdAbS { X with left:=50 }) (id:=X.nout) (O:=outL (sdAbL { X with left:=50 } rc)) (Y:=fun _=>False) (A:=none) (n:=0) (c:=0) (N:=w5.heap.size) HD.out (by omega) h6 (zdq.nil _ _) (FIn.nil _) (fun _ h=>h.elim) (H2.out.low hb6) (fun q _ hq=>⟨⟨.inl hq.1,id⟩,by have:=hq.2;omega,by have:=hq.2;omega⟩) (HO3.out.step hb6)
   have k6:=K5.out.below hb6 zk5
   have zk6:=k6.lt
   have HF:Hid (P (.returned (.tuple #[.slice A6 n6 c6,.agg #[.int .i64 0,.int .i64 0,.slice none 0 0],.bool false])) (putVal w6 (w.heap.size+1) 0 0 none 0 0)):= zak (by rw[HP.out,hS,hQ];exact F)
   clear k5_c0 k5_c1 k5_c2 k5_f
   clear F hS hQ h6 hb6 hz3 k5 zk5
   unfold valZ at k6
   obtain⟨k6_c0,k6_c1,k6_c2⟩:= zc4 k6
   have k6_f:=k6.frozen
   unfold putVal at HF
   dsimp only
   go_wp2_with fail
   refine bodyPost_ret (v:= .tuple #[.slice A6 n6 c6,.agg #[.int .i64 0,.int .i64 0,.slice none 0 0],.bool false]) (by simp[results,Tryz.results25,go_sem,k6_c0,k6_c1,k6_c2,k6_f]) rfl ?_
   exact HF.out
end
end
end Go.Proofs.YthdbckbpldlkeaaGreat
