/- None -/
import Derived.Test.YthdbckbpldlkeaaGreatS26
import Derived.Test.YthdbckbpldlkeaaGreatS36
namespace Go.Proofs.YthdbckbpldlkeaaGreat
set_option linter.unusedVariables false
set_option linter.unusedSimpArgs false
set_option linter.unnecessarySimpa false
section
open Go.RowKit Go.Maps
set_option maxRecDepth 100000
set_option maxHeartbeats 8000000
theorem zmo (p:Nat) (id:Int) (L:List Ms) (A:Option Addr) (n c:Nat) (W:World) (h1:W.cell? ⟨p,3,none⟩=some (.int .i64 id)) (hn:n=L.length) (hL:SlM W A L) (hu:∀ M ∈ L,MsOk M) (hl:n≤1000) :
 Calls Tryz.prog 72 #[.pointer (some ⟨p,0,none⟩),.slice A n c] W (SendR id L W):= by
 have HL:=zak hL
 have HU:=zak hu
 have HN:=zak hn
 have hz:=zal h1
 simp only at hz
 clear hL hu hn
 obtain⟨i0,hi0,hz0,hz1,hz2⟩:= info_parts zgf
 go_enter Tryz.func72,Tryz.ntmps72
 go_wp2_with fail
 go_loopw [5,7,8,9,12,13,14,15,16,17,18,19,20,21,22,23,24,25,26,27,28,29,30,31,32] (fun v5 _ _ _ v12 _ _ _ _ _ _ _ _ _ _ _ _ _ _ _ _ _ _ _ _ wr=> ∃ k A' m' c' ds,v12= .int .i64 (k:Nat)∧ v5= .slice A' m' c'∧k≤n∧Hid (zgg wr (fun g=>W.heap.size≤g) A' m' c' (frmL id (L.take k)) ds∧Below W.heap.size W wr)) (fun _ _ _ _ v12 _ _ _ _ _ _ _ _ _ _ _ _ _ _ _ _ _ _ _ _ _=>n - (intOf v12).toNat)
 case atStart=>exact⟨0,none,0,0,[],rfl,rfl,Nat.zero_le _,zak ⟨zgg.nil _ _,Below.refl _ _⟩⟩
 case round=>
  obtain⟨k,A',m',c',ds,rfl,rfl,hk,HR⟩:= hrel
  by_cases hlt:k < n
  · obtain⟨M,hM⟩:∃ M,L[k]? =some M:=⟨L[k]'(by rw[← HN.out];exact hlt),List.getElem?_eq_getElem _⟩
    have HM:=zak hM
    obtain⟨b,off,Aj,cj,hA,⟨c0,c1,c2,c3,c4,c5,c6,c7,c8,c9,c10,c11,c12,c13⟩,hs⟩:= (HL.out.below HR.out.2) k M hM
    subst hA
    replace c0:wr.cell? ⟨b,off+k * 14,none⟩=some (.int .i64 M.kind):= c0
    have HS:=zak (hs.alloc (.cells (msV M Aj M.data.length cj) 102))
    have q:=zdb wr 102 (msV M Aj M.data.length cj)
    have HB:=zak (zc1 HR.out.2 (.cells (msV M Aj M.data.length cj) 102))
    have HO:=zak (HR.out.1.below (zc1 (Below.refl _ _) (.cells (msV M Aj M.data.length cj) 102)))
    have zr:=HR.out.2.size
    have hU:=HU.out M (List.mem_of_getElem? hM)
    have h1r:wr.cell? ⟨p,3,none⟩=some (.int .i64 id):= (HR.out.2.cell hz).trans h1
    have HBD:=zak (fun W' (h:Sl W' Aj (M.data.map bv))=> zfu M Aj M.data.length cj W' rfl h hU.1 hU.2.1 hU.2.2)
    unfold msV at q HB HO HBD HS
    obtain⟨q_c0,q_c1,q_c2,q_c3,q_c4,q_c5,q_c6,q_c7,q_c8,q_c9,q_c10,q_c11,q_c12,q_c13⟩:= zc9 q
    have q_f:=q.frozen
    clear hM hs hU
    go_wp2_with fail
    refine (HBD.out _ HS.out).mono ?_
    rintro e w2 ⟨A2,n2,c2,rfl,hO2,hb2⟩
    have HB2:=zak (HB.out.trans (hb2.mono (Nat.le_trans zr (by simp))))
    have HO2:=zak (HO.out.below hb2)
    have z2:wr.heap.size+1≤w2.heap.size:=by have:=hb2.size;simpa using this
    have h12:w2.cell? ⟨p,3,none⟩=some (.int .i64 id):= (HB2.out.cell hz).trans h1
    have zp2:p < w2.heap.size:=by omega
    have HST:=zak (zgh id L k M HM.out)
    clear h1r hb2
    by_cases hc:canB M=true
    · rw[if_pos hc] at hO2 ⊢
      rw[if_pos hc] at HST
      obtain rfl:n2=(laidB M).length:=hO2.hn
      have HOd:=zak (hO2.mono (Nat.zero_le _))
      have HFd:=zak (hO2.own.fin.mono (G:=fun g=>W.heap.size≤g) (fun g h=>by have:=h.1;simp at this;omega))
      have hml:m'=(frmL id (L.take k)).length:=HO2.out.1.hn
      have HAP:=zak (HO.out.2.snoc (d:=(A2,c2)) (N:=wr.heap.size+1) (fun e he g hg=>Nat.lt_succ_of_lt (zf9 HR.out.1.1 e he g hg)) (hO2.own.fin.mono (fun g h=>by have:=h.1;simpa using this)))
      have hml2:(frmL id (L.take k)).length≤n:=by
       have h1:=List.length_filter_le canB (L.take k)
       have h2:=List.length_take_le k L
       unfold frmL
       rw[List.length_map]
       omega
      have hm1:m'≤1000:=by omega
      clear hc hO2 hml hml2
      go_wp2_with (at_builtin;refine zd4 _ rfl _ _ 65 rfl zgd zge tfr8 i0 _ 40 Tryz.underlying65 hi0 hz0 hz1 hz2 rfl (by omega) (by omega) A' m' c' (frmL id (L.take k)) ds rfl (HO2.out.1.below (zc1 (Below.refl _ _) _)) ⟨id,false,laidB M⟩ (A2,c2) _ rfl (by exact (zdb _ _ _).sl) (HOd.out.alloc _) HFd.out (fun g h=>by simp at h;omega) (by omega) (m'+1) rfl ?_;intro A4 c4 w4 hO4 hg4 hr4)
      have hgb:Below W.heap.size (w2.alloc (.cells #[.int .i64 id,.bool false,.slice A2 (laidB M).length c2] 62)) w4:=(zdv.of_grown (F:=fun g=>W.heap.size≤g) hg4 (fun g e=>zgi HO2.out.1 e)).below (by simp;omega) (fun i h=>h)
      exact⟨⟨k+1,A4,m'+1,c4,_,by congr 1,rfl,by omega,zak ⟨⟨by rw[HST];exact hO4,HAP.out⟩,(zc1 HB2.out _).trans hgb⟩⟩,by simp only[intOf];omega⟩
    · rw[if_neg hc] at hO2 ⊢
      rw[if_neg hc] at HST
      clear hc hO2
      go_wp2_with fail
      exact⟨⟨k+1,A',m',c',ds,by congr 1,rfl,by omega,zak ⟨by rw[HST];exact HO2.out,HB2.out⟩⟩,by simp only[intOf];omega⟩
  · obtain rfl:k=n:=by omega
    go_wp2_with fail
    go_ret
    refine⟨A',m',c',ds,rfl,?_,HR.out.2⟩
    have:=HR.out.1
    rwa [HN.out,List.take_length] at this
structure SdoS where
 sg:SegS
 bk:BlkS
 nin:Int
 nout:Int
 left:Int
def sdoL (X:SdoS) (ps pb:Nat):List Value:= [.pointer (some ⟨ps,0,none⟩),.pointer (some ⟨pb,0,none⟩),.int .i64 X.nin,.int .i64 X.nout,.int .i64 X.left]
structure DV (w:World) (G:Nat→Prop) (p ps pb pd:Nat) (X:SdoS):Prop where
 blk:Blk w p 143 (sdoL X ps pb).toArray
 seg:SV_ w G ps pd X.sg
 bkv:BV_ w G pb pd X.bk
 ne:p≠ps∧p≠pb∧ps≠pb
 ng: ¬ G p∧ ¬ G ps∧ ¬ G pb
theorem SV_.blk_ {w:World} {G:Nat→Prop} {p pd:Nat} {S:SegS} (h:SV_ w G p pd S):∃ A n c,Blk w p 199 (srvV S pd A n c):= by
 obtain⟨A,n,c,hB,_⟩:= h
 exact⟨A,n,c,hB⟩
theorem BV_.blk_ {w:World} {G:Nat→Prop} {p pd:Nat} {S:BlkS} (h:BV_ w G p pd S):∃ A n c,Blk w p 121 (bsrV S pd A n c):= by
 obtain⟨A,n,c,hB,_⟩:= h
 exact⟨A,n,c,hB⟩
theorem SV_.kept {w w':World} {G H:Nat→Prop} {p pd:Nat} {S:SegS} (h:SV_ w G p pd S) (hk:∀ q,q=p∨G q→q < w.heap.size→w'.heap[q]? =w.heap[q]?) (hz:w.heap.size≤w'.heap.size) (hH:∀ q,q < w.heap.size→G q→H q):SV_ w' H p pd S:=by
 obtain⟨A,n,c,hB,hb⟩:= h
 refine⟨A,n,c,(hk p (.inl rfl) hB.lt).trans hB,fun h0=>?_⟩
 obtain⟨h1,h2,h3,h4,h5⟩:= hb h0
 exact⟨h1,h2,zj3 h3 (fun ad e=>hk _ (.inr (h5 ad e).1) (h5 ad e).2.1),h4,fun ad e=>⟨hH _ (h5 ad e).2.1 (h5 ad e).1,Nat.lt_of_lt_of_le (h5 ad e).2.1 hz,(h5 ad e).2.2⟩⟩
section
variable {w w':World} {G H:Nat→Prop} {p ps pb pd:Nat} {X X':SdoS}
theorem DV.lt (h:DV w G p ps pb pd X):p < w.heap.size∧ps < w.heap.size∧pb < w.heap.size:=by
 obtain⟨A,n,c,hB⟩:= h.seg.blk_
 obtain⟨A',n',c',hB'⟩:= h.bkv.blk_
 exact⟨h.blk.lt,hB.lt,hB'.lt⟩
theorem DV.keep (h:DV w G p ps pb pd X) (hk:∀ q,q=p∨q=ps∨q=pb∨G q→q < w.heap.size→w'.heap[q]? =w.heap[q]?) (hz:w.heap.size≤w'.heap.size):DV w' (fun q=>G q∧q < w.heap.size) p ps pb pd X:=
 ⟨(hk p (.inl rfl) h.lt.1).trans h.blk,h.seg.kept (fun q hq hl=>hk q (by rcases hq with h | h;exact .inr (.inl h);exact .inr (.inr (.inr h))) hl) hz (fun q h1 h2=>⟨h2,h1⟩),h.bkv.keep (fun q hq hl=>hk q (by rcases hq with h | h;exact .inr (.inr (.inl h));exact .inr (.inr (.inr h))) hl) hz (fun q h1 h2=>⟨h2,h1⟩),h.ne,⟨fun g=>h.ng.1 g.1,fun g=>h.ng.2.1 g.1,fun g=>h.ng.2.2 g.1⟩⟩
theorem DV.step (h:DV w G p ps pb pd X) (hb:Below w.heap.size w w'):DV w' (fun q=>G q∧q < w.heap.size) p ps pb pd X:=h.keep (fun q _ hl=>hb.block q hl) hb.size
theorem zmp (h:DV w G p ps pb pd X):Calls Tryz.prog 28 #[.pointer (some ⟨p,0,none⟩)] w fun e w'=>e= .returned (.bool ((X.sg.st != 0) || (X.bk.st != 0)))∧ w=w':=by
 obtain⟨A,n,c,hB⟩:= h.seg.blk_
 obtain⟨A',n',c',hB'⟩:= h.bkv.blk_
 have c0:w.cell? ⟨p,0,none⟩=some (.pointer (some ⟨ps,0,none⟩)):= h.blk.cell 0 rfl
 have c1:w.cell? ⟨p,1,none⟩=some (.pointer (some ⟨pb,0,none⟩)):= h.blk.cell 1 rfl
 have HS:=zak (zjj ps pd X.sg A n c w hB)
 have HB:=zak (zle pb pd X.bk A' n' c' w hB')
 clear h hB hB'
 go_enter Tryz.func28,Tryz.ntmps28
 go_wp2_with fail
 refine HS.out.mono ?_
 rintro e w1 ⟨rfl,hw⟩
 subst hw
 cases hq:(X.sg.st != 0)
 · go_wp2_with fail
   refine HB.out.mono ?_
   rintro e w1 ⟨rfl,hw⟩
   subst hw
   go_wp2_with fail
   go_ret
   exact⟨by rw[hq];rfl,rfl⟩
 · go_wp2_with fail
   go_ret
   exact⟨by rw[hq];rfl,rfl⟩
end
theorem zmq (w:World):Calls Tryz.prog 28 #[.pointer none] w fun e w'=>e= .returned (.bool false)∧ w=w':=by
 go_enter Tryz.func28,Tryz.ntmps28
 go_wp2_with fail
 go_ret
 exact⟨rfl,rfl⟩
theorem zmr (w:World):Calls Tryz.prog 29 #[.pointer none] w fun e w'=>e= .returned (.tuple #[])∧ w=w':=by
 go_enter Tryz.func29,Tryz.ntmps29
 go_wp2_with fail
 exact bodyPost_ret (results_none Tryz.results29 _ _ _) rfl ⟨rfl,rfl⟩
theorem zms (code:Nat) (w:World):Calls Tryz.prog 27 #[.pointer none,.int .u32 (code:Nat)] w fun e w'=>e= .returned (.slice none 0 0)∧ w=w':=by
 go_enter Tryz.func27,Tryz.ntmps27
 go_wp2_with fail
 go_ret
 exact⟨rfl,rfl⟩
theorem zmt (w:World):Calls Tryz.prog 30 #[.pointer none] w fun e w'=>e= .returned (.slice none 0 0)∧ w=w':=by
 go_enter Tryz.func30,Tryz.ntmps30
 go_wp2_with fail
 refine (zmq _).mono ?_
 rintro e w1 ⟨rfl,rfl⟩
 go_wp2_with fail
 go_ret
 exact⟨rfl,rfl⟩
end
end Go.Proofs.YthdbckbpldlkeaaGreat
