/- None -/
import Derived.Test.YtkkpjbjmhaecjaaGreatU13
import Derived.Deep.CutBlock
namespace Go.Proofs.YtkkpjbjmhaecjaaGreat
set_option linter.all false
set_option maxRecDepth 100000
set_option maxHeartbeats 4000000
section
open Go.RowKit
def bsrV (S:BlkS) (pd:Nat) (A:Option Addr) (n c:Nat):Array Value:=#[.int .i64 S.mo,.int .i64 S.sz,.int .i64 S.nx,.int .i64 S.ha,.int .i64 S.ta,.int .i64 S.ro,.pointer (some ⟨pd,0,none⟩),.int .i64 S.st,.int .i64 S.ix,.int .i64 S.sub,.slice A n c,.bool S.sm]
theorem zij (pd:Nat)(w:World):Calls Tryz.prog 11 #[.pointer (some ⟨pd,0,none⟩)] w fun e w'=>e= .returned (.pointer (some ⟨w.heap.size,0,none⟩))∧ Blk w' w.heap.size 114 (bsrV blkZ pd none 0 0)∧ Below w.heap.size w w'∧w'.heap.size=w.heap.size+1:=by
 have q:=zbf w 114 (bsrV blkZ pd none 0 0);have hbw:=za7 (Below.refl w.heap.size w) (.cells (bsrV blkZ pd none 0 0) 114);have HQ:=zak q;have HB:=zak hbw;clear q hbw;unfold bsrV blkZ at *
 go_enter Tryz.func11,Tryz.ntmps11
 go_wp2_with fail
 go_ret
 exact⟨rfl,HQ.out,HB.out,by simp⟩
theorem zik (w:World):Calls Tryz.prog 11 #[.pointer none] w fun e w'=>e= .returned (.pointer none)∧ w=w':=by
 go_enter Tryz.func11,Tryz.ntmps11
 go_wp2_with fail
 go_ret
 exact⟨rfl,rfl⟩
theorem zil (p pd:Nat)(S:BlkS)(A:Option Addr)(n c:Nat)(w:World)(hB:Blk w p 114 (bsrV S pd A n c)):Calls Tryz.prog 14 #[.pointer (some ⟨p,0,none⟩)] w fun e w'=>e= .returned (.bool (S.st != 0))∧ w=w':=by
 have c1:w.cell? ⟨p,7,none⟩=some (.int .i64 S.st):=hB.cell 7 rfl;go_enter Tryz.func14,Tryz.ntmps14
 go_wp2_with fail
 go_ret
 exact⟨rfl,rfl⟩
theorem zim (p pd:Nat)(S:BlkS)(A:Option Addr)(n c:Nat)(w:World)(hB:Blk w p 114 (bsrV S pd A n c)):Calls Tryz.prog 15 #[.pointer (some ⟨p,0,none⟩)] w fun e w'=>e= .returned (.bool (S.st == 1))∧ w=w':=by
 have c1:w.cell? ⟨p,7,none⟩=some (.int .i64 S.st):=hB.cell 7 rfl;go_enter Tryz.func15,Tryz.ntmps15
 go_wp2_with fail
 go_ret
 exact⟨rfl,rfl⟩
theorem zin (p pd:Nat)(S:BlkS)(A:Option Addr)(n c:Nat)(w:World)(hB:Blk w p 114 (bsrV S pd A n c)) :
 Calls Tryz.prog 55 #[.pointer (some ⟨p,0,none⟩)] w fun e w'=>e= .returned (.tuple #[])∧ Blk w' p 114 (bsrV (blkIdle S) pd A n c)∧ zbv (fun k=>k=p) w w':=by
 have hs:Hid (Blk (w.setCell ⟨p,7,none⟩ (.int .i64 0)) p 114 (bsrV (blkIdle S) pd A n c)):=zak (hB.set_ 7 (.int .i64 0));have ho:zbv (fun k=>k=p) w (w.setCell ⟨p,7,none⟩ (.int .i64 0)):=zbv.of_set (F:=fun k=>k=p) rfl _;have hz:=hB.lt;have c1:w.cell? ⟨p,7,none⟩=some (.int .i64 S.st):=hB.cell 7 rfl;have f1:=hB.frozen 7;go_enter Tryz.func55,Tryz.ntmps55
 go_wp2_with fail
 go_end0
 exact⟨rfl,hs.out,ho⟩
theorem zio (As:Option Addr)(ns cs:Nat)(w:World):Calls Tryz.prog 94 #[.slice As ns cs] w fun e w'=>e= .returned (.agg (outV As ns cs outZ none 0 0))∧ Below w.heap.size w w':=by
 have k1:=zbf w 93 (outV As ns cs outZ none 0 0);have hbw:=za7 (Below.refl w.heap.size w) (.cells (outV As ns cs outZ none 0 0) 93);have HK:=zak k1;have HB:=zak hbw;clear k1 hbw;unfold outV outZ at HK HB;go_enter Tryz.func94,Tryz.ntmps94
 go_wp2_with fail
 exact zhr (O:=outZ) rfl rfl rfl HK.out ⟨rfl,HB.out⟩
theorem zip (ix sub:Int)(code:Nat)(w:World):Calls Tryz.prog 95 #[.int .i64 ix,.int .i64 sub,.int .u32 (code:Nat)] w fun e w'=>e= .returned (.agg (msV (abM ix sub code) none 0 0))∧ Below w.heap.size w w':=by
 have q:=zbf w 95 (msV (abM ix sub code) none 0 0);have hbw:=za7 (Below.refl w.heap.size w) (.cells (msV (abM ix sub code) none 0 0) 95);have HQ:=zak q;have HB:=zak hbw;clear q hbw;unfold msV abM at HQ HB;go_enter Tryz.func95,Tryz.ntmps95
 go_wp2_with fail
 exact zd1 (M:=abM ix sub code) rfl rfl rfl HQ.out ⟨rfl,HB.out⟩
theorem ziq (k:Int)(w:World):Calls Tryz.prog 86 #[.int .i64 k] w fun e w'=>e= .returned (.bool (decide (k=1∨k=6∨k=8)))∧ w=w':=by
 have hcs:k=1∨k=6∨k=8∨(k≠1∧k≠6∧k≠8):=by omega
 rcases hcs with rfl | rfl | rfl | ⟨h1,h2,h3⟩
 · go_enter Tryz.func86,Tryz.ntmps86
   go_wp2_with fail
   go_ret
   exact⟨rfl,rfl⟩
 · go_enter Tryz.func86,Tryz.ntmps86
   go_wp2_with fail
   go_ret
   exact⟨rfl,rfl⟩
 · go_enter Tryz.func86,Tryz.ntmps86
   go_wp2_with fail
   go_ret
   exact⟨rfl,rfl⟩
 · have e1:(k == 1)=false:=by simp[h1]
   have e2:(k == 6)=false:=by simp[h2]
   have e3:(k == 8)=false:=by simp[h3]
   have HD:Hid (decide (k=1∨k=6∨k=8)=false):=zak (by simp[h1,h2,h3]);clear h1 h2 h3;go_enter Tryz.func86,Tryz.ntmps86
   go_wp2_with fail
   go_ret
   exact⟨by rw[HD.out];rfl,rfl⟩
def BAbR (p pd:Nat) (S:BlkS) (code:Nat) (A:Option Addr) (n c:Nat) (w:World) (e:Ending) (w':World):Prop:=
 (S.st=0→e= .returned (.slice none 0 0)∧ w'=w)∧
   (S.st≠0→ ∃g,w.heap.size≤g∧e= .returned (.slice (some ⟨g,0,none⟩) 1 1)∧ Blk w' g 95 (msV (abM S.ix S.sub code) none 0 0)∧ Blk w' p 114 (bsrV (blkIdle S) pd A n c)∧ zbv (fun k=>k=p) w w')
def BAnR (p pd:Nat) (S:BlkS) (code:Nat) (A:Option Addr) (n c:Nat) (w:World) (e:Ending) (w':World):Prop:=
 (S.st≠3→e= .returned (.slice none 0 0)∧ w'=w)∧
   (S.st=3→ ∃g,w.heap.size≤g∧e= .returned (.slice (some ⟨g,0,none⟩) 1 1)∧ Blk w' g 95 (msV (if code=0 then okM 18 0 0 false else abM S.ix S.sub code) none 0 0)∧ Blk w' p 114 (bsrV (blkIdle S) pd A n c)∧ zbv (fun k=>k=p) w w')
theorem zir (p pd:Nat)(S:BlkS)(code:Nat)(A:Option Addr)(n c:Nat)(w:World)(hB:Blk w p 114 (bsrV S pd A n c)) :
 Calls Tryz.prog 53 #[.pointer (some ⟨p,0,none⟩),.int .u32 (code:Nat)] w (BAbR p pd S code A n c w):=by
 have HB:=zak hB;clear hB;by_cases h0:S.st=0
 · have hf:(S.st != 0)=false:=by simp[h0]
   go_enter Tryz.func53,Tryz.ntmps53
   go_wp2_with fail
   refine (zil p pd S A n c _ HB.out).mono ?_;rintro e w1 ⟨rfl,rfl⟩;rw[hf];go_wp2_with fail
   go_ret
   exact⟨fun _=>⟨rfl,rfl⟩,fun h=>absurd h0 h⟩
 · have hf:(S.st != 0)=true:=by simp[h0]
   have hs:Hid (Blk (w.setCell ⟨p,7,none⟩ (.int .i64 0)) p 114 (bsrV (blkIdle S) pd A n c)):=zak (HB.out.set_ 7 (.int .i64 0));have ho:zbv (fun k=>k=p) w (w.setCell ⟨p,7,none⟩ (.int .i64 0)):=zbv.of_set (F:=fun k=>k=p) rfl _;have hz:=HB.out.lt;have c1:w.cell? ⟨p,7,none⟩=some (.int .i64 S.st):=HB.out.cell 7 rfl;have f1:=HB.out.frozen 7;have q':=hs.out;unfold bsrV blkIdle at q';have hz0:(w.setCell ⟨p,7,none⟩ (.int .i64 0)).heap.size=w.heap.size:=by simp[World.setCell]
   have d2:(w.setCell ⟨p,7,none⟩ (.int .i64 0)).cell? ⟨p,8,none⟩=some (.int .i64 S.ix):=q'.cell 8 rfl;have d3:(w.setCell ⟨p,7,none⟩ (.int .i64 0)).cell? ⟨p,9,none⟩=some (.int .i64 S.sub):=q'.cell 9 rfl;go_enter Tryz.func53,Tryz.ntmps53
   go_wp2_with fail
   refine (zil p pd S A n c _ HB.out).mono ?_;rintro e w1 ⟨rfl,rfl⟩;rw[hf];clear q';go_wp2_with fail
   refine wp_region_held_drew (S:=(fun w'=>(∀qA:Addr,qA.block < ((w.setCell ⟨p,7,none⟩ (.int .i64 0))).heap.size→w'.cell? qA=((w.setCell ⟨p,7,none⟩ (.int .i64 0))).cell? qA)∧ Below ((w.setCell ⟨p,7,none⟩ (.int .i64 0))).heap.size ((w.setCell ⟨p,7,none⟩ (.int .i64 0))) w')) (by kernel_rfl) ?hS1 (fun hHeld=>?rest1)
   case hS1=>exact kSn
   case' rest1=>skip
   iterate 9 (refine tkN ?_;try simp only[PqL,Act.put])
   refine kRd 9 (fun K hK=>?_)
   go_simp
   refine (zip S.ix S.sub code _).mono ?_;rintro e w2 ⟨rfl,hb2⟩;have hz2:w.heap.size≤w2.heap.size:=by have:=hb2.size;rw[show (w.setCell ⟨p,7,none⟩ (.int .i64 0)).drew.heap.size=w.heap.size from hz0] at this;exact this
   have HG:=zak (Blk.new w2 95 (msV (abM S.ix S.sub code) none 0 0));unfold msV abM at HG;unfold msV abM;dsimp only;refine hK.out _ _ ?hS13 (fun hHeld=>?rest13)
   case hS13=>exact kSn
   case' rest13=>(clear hK K;try simp only[PqL,Act.put])
   refine kRd 10 (fun K hK=>?_)
   go_simp
   refine hK.out _ _ ?hS16 (fun hHeld=>?rest16)
   case hS16=>exact kSn
   case' rest16=>(clear hK K;try simp only[PqL,Act.put])
   refine tkH 11 ?_;try simp only[PqL,Act.put]
   refine wpAnyH_done (by kernel_rfl) ?_ _;have hEnd:=hHeld.2
   repeat (clear hHeld)
   go_wp2_with fail
   go_ret
   exact⟨fun h=>absurd h h0,fun _=>⟨w2.heap.size,hz2,rfl,HG.out,hs.out.below hEnd hs.out.lt,ho.trans (zbv.of_below (F:=fun k=>k=p) hEnd) (fun _ _ h=>h)⟩⟩
theorem zis (p pd:Nat)(S:BlkS)(code:Nat)(A:Option Addr)(n c:Nat)(w:World)(hB:Blk w p 114 (bsrV S pd A n c))(h0:S.st≠0) :
 Calls Tryz.prog 93 #[.pointer (some ⟨p,0,none⟩),.int .u32 (code:Nat)] w fun e w'=> ∃g,w.heap.size≤g∧e= .returned (.agg (outV (some ⟨g,0,none⟩) 1 1 outZ none 0 0))∧ Blk w' g 95 (msV (abM S.ix S.sub code) none 0 0)∧ Blk w' p 114 (bsrV (blkIdle S) pd A n c)∧ zbv (fun k=>k=p) w w':=by
 have k1:=zbf w 93 (outV none 0 0 outZ none 0 0);have hbw:=za7 (Below.refl w.heap.size w) (.cells (outV none 0 0 outZ none 0 0) 93);have hz:=hB.lt;have HA:=zak (zir p pd S code A n c _ (hB.below hbw hz));have HK:=zak k1;have HO:=zak (zbv.of_below (F:=fun k=>k=p) hbw);have H0:=zak h0;have HZ:Hid ((w.alloc (.cells (outV none 0 0 outZ none 0 0) 93)).heap.size=w.heap.size+1):=zak (by simp);clear hB hbw k1 h0;unfold outV outZ at HA HO HZ;go_enter Tryz.func93,Tryz.ntmps93
 go_wp2_with fail
 refine HA.out.mono ?_;rintro e w1 ⟨_,h1⟩;obtain⟨g,hg,rfl,hM,hP,ho⟩:=h1 H0.out;have hgz:w.heap.size < g:=by have:=HZ.out;omega
 have hk1:=zhe HK.out ho (show w.heap.size≠p by omega);have HP:=zak (zht hP (show p≠w.heap.size by omega) (some ⟨g,0,none⟩) 1 1 outZ none 0 0);have HM:=zak (zht hM (show g≠w.heap.size by omega) (some ⟨g,0,none⟩) 1 1 outZ none 0 0);have HO2:=zak (zhu (HO.out.trans ho (fun _ _ h=>h)) (g:=w.heap.size) (Nat.le_refl _) (some ⟨g,0,none⟩) 1 1 outZ none 0 0);have HK1:=zak (zhs (As':=some ⟨g,0,none⟩) (ns':=1) (cs':=1) (O':=outZ) (A':=none) (n':=0) (c':=0) hk1);unfold putO outZ at HP HM HO2 HK1;dsimp only at HP HM HO2 HK1;unfold outV outZ at hk1;obtain⟨ii,ij,ik,il,im⟩:=za9 hk1;have jf:=hk1.frozen;clear hM hP ho h1 HA
 go_wp2_with fail
 refine zhr (O:=outZ) rfl rfl rfl HK1.out ?_;exact⟨g,by omega,rfl,HM.out,HP.out,HO2.out⟩
theorem zit (p pd:Nat)(S:BlkS)(code:Nat)(A:Option Addr)(n c:Nat)(w:World)(hB:Blk w p 114 (bsrV S pd A n c)) :
 Calls Tryz.prog 38 #[.pointer (some ⟨p,0,none⟩),.int .u32 (code:Nat)] w (BAnR p pd S code A n c w):=by
 have HB:=zak hB;have c1:w.cell? ⟨p,7,none⟩=some (.int .i64 S.st):=hB.cell 7 rfl;have f1:=hB.frozen 7;have hz:=hB.lt;by_cases h3:S.st=3
 · rw[h3] at c1;have H3:=zak h3;clear h3;by_cases h0:code=0
   · subst h0;have hs:Hid (Blk (w.setCell ⟨p,7,none⟩ (.int .i64 0)) p 114 (bsrV (blkIdle S) pd A n c)):=zak (HB.out.set_ 7 (.int .i64 0));have ho:zbv (fun k=>k=p) w (w.setCell ⟨p,7,none⟩ (.int .i64 0)):=zbv.of_set (F:=fun k=>k=p) rfl _;have hz0:(w.setCell ⟨p,7,none⟩ (.int .i64 0)).heap.size=w.heap.size:=by simp[World.setCell]
     have hg:=Blk.new (w.setCell ⟨p,7,none⟩ (.int .i64 0)) 95 (msV (okM 18 0 0 false) none 0 0);rw[hz0] at hg;have HR:=zak (And.intro hg (And.intro (hs.out.alloc (.cells (msV (okM 18 0 0 false) none 0 0) 95)) (ho.new (.cells (msV (okM 18 0 0 false) none 0 0) 95))));clear hg hs ho hz0 hB;unfold msV okM at HR;go_enter Tryz.func38,Tryz.ntmps38
     go_wp2_with fail
     go_ret
     exact⟨fun h=>absurd H3.out h,fun _=>⟨w.heap.size,Nat.le_refl _,rfl,HR.out⟩⟩
   · have HA:=zak (zir p pd S code A n c w hB);have HC:=zak h0;have hne: ¬(code:Int)=0:=by omega
     clear hB h0;go_enter Tryz.func38,Tryz.ntmps38
     go_wp2_with fail
     refine HA.out.mono ?_;rintro e w1 ⟨_,h1⟩;obtain⟨g,hg,rfl,hM,hP,ho⟩:=h1 (by rw[H3.out];decide);have HR:=zak (And.intro hM (And.intro hP ho));clear hM hP ho h1;go_wp2_with fail
     go_ret
     exact⟨fun h=>absurd H3.out h,fun _=>⟨g,hg,rfl,by rw[if_neg HC.out];exact HR.out.1,HR.out.2.1,HR.out.2.2⟩⟩
 · have hf:(S.st != 3)=true:=by simp[h3]
   have H3:=zak h3;clear hB h3;go_enter Tryz.func38,Tryz.ntmps38
   go_wp2_with fail
   go_ret
   exact⟨fun _=>⟨rfl,rfl⟩,fun h=>absurd h H3.out⟩
end
section
open Go.RowKit
set_option maxHeartbeats 4000000
end
section
open Go.RowKit
theorem ziu {W1 w3:World}{z:Obj}(h:Below (W1.heap.size+1) (W1.alloc z).drew w3):Below W1.heap.size W1 w3:=(za7 (Below.refl _ _) z).trans (Below.mono (B:=W1.heap.size+1) ⟨h.os,h.tape,h.output,h.size,h.block⟩ (by omega))
theorem ziv {W1 w3:World}{t:TypeId}{cs:Array Value}(h:Below (W1.heap.size+1) (W1.alloc (.cells cs t)).drew w3):Blk w3 W1.heap.size t cs:=Blk.below (w:=(W1.alloc (.cells cs t)).drew) (Blk.new W1 t cs) h (by omega)
end
section
open Go.RowKit
theorem ziw (L:List Ent)(ix sub:Int):∃k:Nat,smayC L ix sub=(k:Int):=⟨(smayC L ix sub).toNat,by
 have:0≤smayC L ix sub:=by unfold smayC codeL writeE;(repeat' split)<;> omega
 omega⟩
theorem zix (E:Ent)(n:Int):∃k:Nat,fitsC E n=(k:Int):=⟨(fitsC E n).toNat,by
 have:0≤fitsC E n:=by unfold fitsC;(repeat' split)<;> omega
 omega⟩
def DwnC (W:World) (L:List Ent) (ix sub:Int) (s5 s6:Value) (wx:World):Prop:=
 ∃ge E A4 n4 c4,s5= .pointer (some ⟨ge,0,none⟩)∧ s6= .int .u32 (smayC L ix sub)∧ W.heap.size≤ge∧Blk wx ge 90 (entV E A4 n4 c4)∧ (smayC L ix sub=0→E=entK L (locK L ix sub))∧ Below W.heap.size W wx
theorem ziy {W w3:World}{L:List Ent}{ix sub:Int}{E:Ent}{A4:Option Addr}{n4 c4:Nat}(hb:Below W.heap.size W w3)(hE:smayC L ix sub=0→E=entK L (locK L ix sub)) :
 DwnC W L ix sub (.pointer (some ⟨w3.heap.size,0,none⟩)) (.int .u32 (smayC L ix sub)) (w3.alloc (.cells (entV E A4 n4 c4) 90)):=
 ⟨w3.heap.size,E,A4,n4,c4,rfl,rfl,hb.size,Blk.new _ _ _,hE,za7 hb _⟩
theorem ziz {W w3:World}{L:List Ent}{ix sub:Int}{E:Ent}{A4:Option Addr}{n4 c4:Nat}(hb:Below W.heap.size W w3)(hZ:Blk w3 W.heap.size 90 (entV zeroE none 0 0))(hE:smayC L ix sub=0→E=entK L (locK L ix sub)) :
 DwnC W L ix sub (.pointer (some ⟨W.heap.size,0,none⟩)) (.int .u32 (smayC L ix sub)) (put11 w3 W.heap.size E A4 n4 c4):=by
 have o1:=zg6 w3 W.heap.size E A4 n4 c4;exact⟨W.heap.size,E,A4,n4,c4,rfl,rfl,Nat.le_refl _,zg5 hZ rfl E A4 n4 c4,hE,hb.trans (o1.below hb.size (fun i h=>by omega))⟩
section
variable {F:Nat→Prop} {pd gl n cl cv:Nat} {Av:Option Addr} {L:List Ent} {V:List (List UInt8)} {ds es:List (Option Addr×Nat)}
end
end
end Go.Proofs.YtkkpjbjmhaecjaaGreat
