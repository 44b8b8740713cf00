/- None -/
import Derived.Test.YthdbckbpldlkeaaGreatS21
namespace Go.Proofs.YthdbckbpldlkeaaGreat
set_option linter.unusedVariables false
set_option linter.unusedSimpArgs false
set_option linter.unnecessarySimpa false
section
open Go.RowKit
set_option maxRecDepth 100000
theorem zlb:(Tryz.prog.info? 102).map (·.size)=some 14:=by kernel_rfl
theorem zlc {fn:Func} {p:Tmp} (h:fn.results= #[.cell p 102]) {a:Act} {w:World} {g:Nat} {M:Ms} {A:Option Addr} {n c:Nat} {R:Ending→World→Prop} (hd:a.defers= []) (hp:a.tmps.getD p undef= .pointer (some ⟨g,0,none⟩))
 (hB:Blk w g 102 (msV M A n c)) (hR:R (.returned (.agg (msV M A n c))) w):bodyPost Tryz.prog fn R .ret a w:=
 bodyPost_ret (results_cell_row h _ _ _ _ _ _ _ hp hB Tryz.underlying102 rfl zlb) hd hR
end
section
open Go.RowKit
set_option maxRecDepth 100000
set_option maxHeartbeats 4000000
def bsrV (S:BlkS) (pd:Nat) (A:Option Addr) (n c:Nat):Array Value:= #[.int .i64 S.mo,.int .i64 S.sz,.int .i64 S.nx,.int .i64 S.ha,.int .i64 S.ta,.int .i64 S.ro,.pointer (some ⟨pd,0,none⟩),.int .i64 S.st,.int .i64 S.ix,.int .i64 S.sub,.slice A n c,.bool S.sm]
theorem zld (pd:Nat) (w:World):Calls Tryz.prog 14 #[.pointer (some ⟨pd,0,none⟩)] w fun e w'=>e= .returned (.pointer (some ⟨w.heap.size,0,none⟩))∧ Blk w' w.heap.size 121 (bsrV blkZ pd none 0 0)∧ Below w.heap.size w w'∧w'.heap.size=w.heap.size+1:=by
 have q:=zdb w 121 (bsrV blkZ pd none 0 0)
 have hbw:=zc1 (Below.refl w.heap.size w) (.cells (bsrV blkZ pd none 0 0) 121)
 have HQ:=zak q
 have HB:=zak hbw
 clear q hbw
 unfold bsrV blkZ at *
 go_enter Tryz.func14,Tryz.ntmps14
 go_wp2_with fail
 go_ret
 exact⟨rfl,HQ.out,HB.out,by simp⟩
theorem zle (p pd:Nat) (S:BlkS) (A:Option Addr) (n c:Nat) (w:World) (hB:Blk w p 121 (bsrV S pd A n c)):Calls Tryz.prog 17 #[.pointer (some ⟨p,0,none⟩)] w fun e w'=>e= .returned (.bool (S.st != 0))∧ w=w':=by
 have c1:w.cell? ⟨p,7,none⟩=some (.int .i64 S.st):= hB.cell 7 rfl
 go_enter Tryz.func17,Tryz.ntmps17
 go_wp2_with fail
 go_ret
 exact⟨rfl,rfl⟩
theorem zlf (p pd:Nat) (S:BlkS) (A:Option Addr) (n c:Nat) (w:World) (hB:Blk w p 121 (bsrV S pd A n c)):Calls Tryz.prog 18 #[.pointer (some ⟨p,0,none⟩)] w fun e w'=>e= .returned (.bool (S.st == 1))∧ w=w':=by
 have c1:w.cell? ⟨p,7,none⟩=some (.int .i64 S.st):= hB.cell 7 rfl
 go_enter Tryz.func18,Tryz.ntmps18
 go_wp2_with fail
 go_ret
 exact⟨rfl,rfl⟩
theorem zlg (p pd:Nat) (S:BlkS) (A:Option Addr) (n c:Nat) (w:World) (hB:Blk w p 121 (bsrV S pd A n c)) :
 Calls Tryz.prog 63 #[.pointer (some ⟨p,0,none⟩)] w fun e w'=>e= .returned (.tuple #[])∧ Blk w' p 121 (bsrV (blkIdle S) pd A n c)∧ zdv (fun k=>k=p) w w':=by
 have hs:Hid (Blk (w.setCell ⟨p,7,none⟩ (.int .i64 0)) p 121 (bsrV (blkIdle S) pd A n c)):= zak (hB.set_ 7 (.int .i64 0))
 have ho:zdv (fun k=>k=p) w (w.setCell ⟨p,7,none⟩ (.int .i64 0)):= zdv.of_set (F:=fun k=>k=p) rfl _
 have hz:=hB.lt
 have c1:w.cell? ⟨p,7,none⟩=some (.int .i64 S.st):= hB.cell 7 rfl
 have f1:=hB.frozen 7
 go_enter Tryz.func63,Tryz.ntmps63
 go_wp2_with fail
 go_end0
 exact⟨rfl,hs.out,ho⟩
theorem zlh (As:Option Addr) (ns cs:Nat) (w:World):Calls Tryz.prog 104 #[.slice As ns cs] w fun e w'=>e= .returned (.agg (outV As ns cs outZ none 0 0))∧ Below w.heap.size w w':=by
 have k1:=zdb w 100 (outV As ns cs outZ none 0 0)
 have hbw:=zc1 (Below.refl w.heap.size w) (.cells (outV As ns cs outZ none 0 0) 100)
 have HK:=zak k1
 have HB:=zak hbw
 clear k1 hbw
 unfold outV outZ at HK HB
 go_enter Tryz.func104,Tryz.ntmps104
 go_wp2_with fail
 exact zjd (O:=outZ) rfl rfl rfl HK.out ⟨rfl,HB.out⟩
theorem zli (ix sub:Int) (code:Nat) (w:World):Calls Tryz.prog 105 #[.int .i64 ix,.int .i64 sub,.int .u32 (code:Nat)] w fun e w'=>e= .returned (.agg (msV (abM ix sub code) none 0 0))∧ Below w.heap.size w w':=by
 have q:=zdb w 102 (msV (abM ix sub code) none 0 0)
 have hbw:=zc1 (Below.refl w.heap.size w) (.cells (msV (abM ix sub code) none 0 0) 102)
 have HQ:=zak q
 have HB:=zak hbw
 clear q hbw
 unfold msV abM at HQ HB
 go_enter Tryz.func105,Tryz.ntmps105
 go_wp2_with fail
 exact zlc (M:=abM ix sub code) rfl rfl rfl HQ.out ⟨rfl,HB.out⟩
theorem zlj (k:Int) (w:World):Calls Tryz.prog 96 #[.int .i64 k] w fun e w'=>e= .returned (.bool (decide (k=1∨k=6∨k=8)))∧ w=w':=by
 have hcs:k=1∨k=6∨k=8∨(k≠1∧k≠6∧k≠8):= by omega
 rcases hcs with rfl | rfl | rfl | ⟨h1,h2,h3⟩
 · go_enter Tryz.func96,Tryz.ntmps96
   go_wp2_with fail
   go_ret
   exact⟨rfl,rfl⟩
 · go_enter Tryz.func96,Tryz.ntmps96
   go_wp2_with fail
   go_ret
   exact⟨rfl,rfl⟩
 · go_enter Tryz.func96,Tryz.ntmps96
   go_wp2_with fail
   go_ret
   exact⟨rfl,rfl⟩
 · have e1:(k == 1)=false:=by simp[h1]
   have e2:(k == 6)=false:=by simp[h2]
   have e3:(k == 8)=false:=by simp[h3]
   have HD:Hid (decide (k=1∨k=6∨k=8)=false):= zak (by simp[h1,h2,h3])
   clear h1 h2 h3
   go_enter Tryz.func96,Tryz.ntmps96
   go_wp2_with fail
   go_ret
   exact⟨by rw[HD.out];rfl,rfl⟩
def BAbR (p pd:Nat) (S:BlkS) (code:Nat) (A:Option Addr) (n c:Nat) (w:World) (e:Ending) (w':World):Prop:=
 (S.st=0→e= .returned (.slice none 0 0)∧ w'=w)∧
   (S.st≠0→ ∃ g,w.heap.size≤g∧e= .returned (.slice (some ⟨g,0,none⟩) 1 1)∧ Blk w' g 102 (msV (abM S.ix S.sub code) none 0 0)∧ Blk w' p 121 (bsrV (blkIdle S) pd A n c)∧ zdv (fun k=>k=p) w w')
def BAnR (p pd:Nat) (S:BlkS) (code:Nat) (A:Option Addr) (n c:Nat) (w:World) (e:Ending) (w':World):Prop:=
 (S.st≠3→e= .returned (.slice none 0 0)∧ w'=w)∧
   (S.st=3→ ∃ g,w.heap.size≤g∧e= .returned (.slice (some ⟨g,0,none⟩) 1 1)∧ Blk w' g 102 (msV (if code=0 then okM 18 0 0 false else abM S.ix S.sub code) none 0 0)∧ Blk w' p 121 (bsrV (blkIdle S) pd A n c)∧ zdv (fun k=>k=p) w w')
theorem zlk (p pd:Nat) (S:BlkS) (code:Nat) (A:Option Addr) (n c:Nat) (w:World) (hB:Blk w p 121 (bsrV S pd A n c)) :
 Calls Tryz.prog 61 #[.pointer (some ⟨p,0,none⟩),.int .u32 (code:Nat)] w (BAbR p pd S code A n c w):= by
 have HB:=zak hB
 clear hB
 by_cases h0:S.st=0
 · have hf:(S.st != 0)=false:=by simp[h0]
   go_enter Tryz.func61,Tryz.ntmps61
   go_wp2_with fail
   refine (zle p pd S A n c _ HB.out).mono ?_
   rintro e w1 ⟨rfl,rfl⟩
   rw[hf]
   go_wp2_with fail
   go_ret
   exact⟨fun _=>⟨rfl,rfl⟩,fun h=>absurd h0 h⟩
 · have hf:(S.st != 0)=true:=by simp[h0]
   have hs:Hid (Blk (w.setCell ⟨p,7,none⟩ (.int .i64 0)) p 121 (bsrV (blkIdle S) pd A n c)):= zak (HB.out.set_ 7 (.int .i64 0))
   have ho:zdv (fun k=>k=p) w (w.setCell ⟨p,7,none⟩ (.int .i64 0)):= zdv.of_set (F:=fun k=>k=p) rfl _
   have hz:=HB.out.lt
   have c1:w.cell? ⟨p,7,none⟩=some (.int .i64 S.st):= HB.out.cell 7 rfl
   have f1:=HB.out.frozen 7
   have q':=hs.out
   unfold bsrV blkIdle at q'
   have hz0:(w.setCell ⟨p,7,none⟩ (.int .i64 0)).heap.size=w.heap.size:=by simp[World.setCell]
   have d2:(w.setCell ⟨p,7,none⟩ (.int .i64 0)).cell? ⟨p,8,none⟩=some (.int .i64 S.ix):= q'.cell 8 rfl
   have d3:(w.setCell ⟨p,7,none⟩ (.int .i64 0)).cell? ⟨p,9,none⟩=some (.int .i64 S.sub):= q'.cell 9 rfl
   go_enter Tryz.func61,Tryz.ntmps61
   go_wp2_with fail
   refine (zle p pd S A n c _ HB.out).mono ?_
   rintro e w1 ⟨rfl,rfl⟩
   rw[hf]
   clear q'
   go_wp2_with fail
   refine wp_region_held_drew (S:=(fun w'=>(∀ qA:Addr,qA.block < ((w.setCell ⟨p,7,none⟩ (.int .i64 0))).heap.size→w'.cell? qA=((w.setCell ⟨p,7,none⟩ (.int .i64 0))).cell? qA)∧ Below ((w.setCell ⟨p,7,none⟩ (.int .i64 0))).heap.size ((w.setCell ⟨p,7,none⟩ (.int .i64 0))) w')) (by kernel_rfl) ?hS1 (fun hHeld=>?rest1)
   case hS1=>((try dsimp only);(((try go_split_ands);refine zcz ?_;all_goals exact bl)))
   case' rest1=>skip
   iterate 9 (refine tkN ?_;try simp only[PqL,Act.put])
   refine wpAnyH_ready (rs:= [9]) (by kernel_rfl) (by simp) ?_
   refine AllReadyH.cons (o:=_) rfl (fun K hK=>?_) .nil
   go_simp
   refine (zli S.ix S.sub code _).mono ?_
   rintro e w2 ⟨rfl,hb2⟩
   have hz2:w.heap.size≤w2.heap.size:=by have:=hb2.size;rw[show (w.setCell ⟨p,7,none⟩ (.int .i64 0)).drew.heap.size=w.heap.size from hz0] at this;exact this
   have HG:=zak (Blk.new w2 102 (msV (abM S.ix S.sub code) none 0 0))
   unfold msV abM at HG
   unfold msV abM
   dsimp only
   refine hK.out _ _ ?hS13 (fun hHeld=>?rest13)
   case hS13=>((try dsimp only);(((try go_split_ands);refine zcz ?_;all_goals exact bl)))
   case' rest13=>(clear hK K;try simp only[PqL,Act.put])
   refine wpAnyH_ready (rs:= [10]) (by kernel_rfl) (by simp) ?_
   refine AllReadyH.cons (o:=_) rfl (fun K hK=>?_) .nil
   go_simp
   refine hK.out _ _ ?hS16 (fun hHeld=>?rest16)
   case hS16=>((try dsimp only);(((try go_split_ands);refine zcz ?_;all_goals exact bl)))
   case' rest16=>(clear hK K;try simp only[PqL,Act.put])
   refine tkH 11 ?_
   try simp only[PqL,Act.put]
   refine wpAnyH_done (by kernel_rfl) ?_ _
   have hEnd:=hHeld.2
   repeat (clear hHeld)
   go_wp2_with fail
   go_ret
   exact⟨fun h=>absurd h h0,fun _=>⟨w2.heap.size,hz2,rfl,HG.out,hs.out.below hEnd hs.out.lt,ho.trans (zdv.of_below (F:=fun k=>k=p) hEnd) (fun _ _ h=>h)⟩⟩
theorem zll (p pd:Nat) (S:BlkS) (code:Nat) (A:Option Addr) (n c:Nat) (w:World) (hB:Blk w p 121 (bsrV S pd A n c)) (h0:S.st≠0) :
 Calls Tryz.prog 103 #[.pointer (some ⟨p,0,none⟩),.int .u32 (code:Nat)] w fun e w'=> ∃ g,w.heap.size≤g∧e= .returned (.agg (outV (some ⟨g,0,none⟩) 1 1 outZ none 0 0))∧ Blk w' g 102 (msV (abM S.ix S.sub code) none 0 0)∧ Blk w' p 121 (bsrV (blkIdle S) pd A n c)∧ zdv (fun k=>k=p) w w':=by
 have k1:=zdb w 100 (outV none 0 0 outZ none 0 0)
 have hbw:=zc1 (Below.refl w.heap.size w) (.cells (outV none 0 0 outZ none 0 0) 100)
 have hz:=hB.lt
 have HA:=zak (zlk p pd S code A n c _ (hB.below hbw hz))
 have HK:=zak k1
 have HO:=zak (zdv.of_below (F:=fun k=>k=p) hbw)
 have H0:=zak h0
 have HZ:Hid ((w.alloc (.cells (outV none 0 0 outZ none 0 0) 100)).heap.size=w.heap.size+1):= zak (by simp)
 clear hB hbw k1 h0
 unfold outV outZ at HA HO HZ
 go_enter Tryz.func103,Tryz.ntmps103
 go_wp2_with fail
 refine HA.out.mono ?_
 rintro e w1 ⟨_,h1⟩
 obtain⟨g,hg,rfl,hM,hP,ho⟩:= h1 H0.out
 have hgz:w.heap.size < g:=by have:=HZ.out;omega
 have hk1:=ziz HK.out ho (show w.heap.size≠p by omega)
 have HP:=zak (zjf hP (show p≠w.heap.size by omega) (some ⟨g,0,none⟩) 1 1 outZ none 0 0)
 have HM:=zak (zjf hM (show g≠w.heap.size by omega) (some ⟨g,0,none⟩) 1 1 outZ none 0 0)
 have HO2:=zak (zjg (HO.out.trans ho (fun _ _ h=>h)) (g:=w.heap.size) (Nat.le_refl _) (some ⟨g,0,none⟩) 1 1 outZ none 0 0)
 have HK1:=zak (zje (As':=some ⟨g,0,none⟩) (ns':=1) (cs':=1) (O':=outZ) (A':=none) (n':=0) (c':=0) hk1)
 unfold putO outZ at HP HM HO2 HK1
 dsimp only at HP HM HO2 HK1
 unfold outV outZ at hk1
 obtain⟨hk1_c0,hk1_c1,hk1_c2,hk1_c3,hk1_c4⟩:= zc5 hk1
 have hk1_f:=hk1.frozen
 clear hM hP ho h1 HA
 go_wp2_with fail
 refine zjd (O:=outZ) rfl rfl rfl HK1.out ?_
 exact⟨g,by omega,rfl,HM.out,HP.out,HO2.out⟩
theorem zlm (p pd:Nat) (S:BlkS) (code:Nat) (A:Option Addr) (n c:Nat) (w:World) (hB:Blk w p 121 (bsrV S pd A n c)) :
 Calls Tryz.prog 47 #[.pointer (some ⟨p,0,none⟩),.int .u32 (code:Nat)] w (BAnR p pd S code A n c w):= by
 have HB:=zak hB
 have c1:w.cell? ⟨p,7,none⟩=some (.int .i64 S.st):= hB.cell 7 rfl
 have f1:=hB.frozen 7
 have hz:=hB.lt
 by_cases h3:S.st=3
 · rw[h3] at c1
   have H3:=zak h3
   clear h3
   by_cases h0:code=0
   · subst h0
     have hs:Hid (Blk (w.setCell ⟨p,7,none⟩ (.int .i64 0)) p 121 (bsrV (blkIdle S) pd A n c)):= zak (HB.out.set_ 7 (.int .i64 0))
     have ho:zdv (fun k=>k=p) w (w.setCell ⟨p,7,none⟩ (.int .i64 0)):= zdv.of_set (F:=fun k=>k=p) rfl _
     have hz0:(w.setCell ⟨p,7,none⟩ (.int .i64 0)).heap.size=w.heap.size:=by simp[World.setCell]
     have hg:=Blk.new (w.setCell ⟨p,7,none⟩ (.int .i64 0)) 102 (msV (okM 18 0 0 false) none 0 0)
     rw[hz0] at hg
     have HR:=zak (And.intro hg (And.intro (hs.out.alloc (.cells (msV (okM 18 0 0 false) none 0 0) 102)) (ho.new (.cells (msV (okM 18 0 0 false) none 0 0) 102))))
     clear hg hs ho hz0 hB
     unfold msV okM at HR
     go_enter Tryz.func47,Tryz.ntmps47
     go_wp2_with fail
     go_ret
     exact⟨fun h=>absurd H3.out h,fun _=>⟨w.heap.size,Nat.le_refl _,rfl,HR.out⟩⟩
   · have HA:=zak (zlk p pd S code A n c w hB)
     have HC:=zak h0
     have hne: ¬ (code:Int)=0:=by omega
     clear hB h0
     go_enter Tryz.func47,Tryz.ntmps47
     go_wp2_with fail
     refine HA.out.mono ?_
     rintro e w1 ⟨_,h1⟩
     obtain⟨g,hg,rfl,hM,hP,ho⟩:= h1 (by rw[H3.out];decide)
     have HR:=zak (And.intro hM (And.intro hP ho))
     clear hM hP ho h1
     go_wp2_with fail
     go_ret
     exact⟨fun h=>absurd H3.out h,fun _=>⟨g,hg,rfl,by rw[if_neg HC.out];exact HR.out.1,HR.out.2.1,HR.out.2.2⟩⟩
 · have hf:(S.st != 3)=true:=by simp[h3]
   have H3:=zak h3
   clear hB h3
   go_enter Tryz.func47,Tryz.ntmps47
   go_wp2_with fail
   go_ret
   exact⟨fun _=>⟨rfl,rfl⟩,fun h=>absurd h H3.out⟩
end
end Go.Proofs.YthdbckbpldlkeaaGreat
