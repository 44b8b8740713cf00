/- None -/
import Derived.Test.YtkkpjbjmhaecjaaGreatT20
namespace Go.Proofs.YtkkpjbjmhaecjaaGreat
set_option linter.all false
set_option maxRecDepth 100000
set_option maxHeartbeats 4000000
section
open Go.RowKit
def bsrV (S:BlkS) (pd:Nat) (A:Option Addr) (n c:Nat):Array Value:=#[.int .i64 S.mo,.int .i64 S.sz,.int .i64 S.nx,.int .i64 S.ha,.int .i64 S.ta,.int .i64 S.ro,.pointer (some ⟨pd,0,none⟩),.int .i64 S.st,.int .i64 S.ix,.int .i64 S.sub,.slice A n c,.bool S.sm]
theorem zl2 (pd:Nat)(w:World):Calls Tryz.prog 11 #[.pointer (some ⟨pd,0,none⟩)] w fun e w'=>e= .returned (.pointer (some ⟨w.heap.size,0,none⟩))∧ Blk w' w.heap.size 114 (bsrV blkZ pd none 0 0)∧ Below w.heap.size w w'∧w'.heap.size=w.heap.size+1:=by
 have q:=zdg w 114 (bsrV blkZ pd none 0 0);have hbw:=zc5 (Below.refl w.heap.size w) (.cells (bsrV blkZ pd none 0 0) 114);have HQ:=zak q;have HB:=zak hbw;clear q hbw;unfold bsrV blkZ at *
 go_enter Tryz.func11,Tryz.ntmps11
 go_wp2_with fail
 go_ret
 exact⟨rfl,HQ.out,HB.out,by simp⟩
theorem zl3 (p pd:Nat)(S:BlkS)(A:Option Addr)(n c:Nat)(w:World)(hB:Blk w p 114 (bsrV S pd A n c)):Calls Tryz.prog 14 #[.pointer (some ⟨p,0,none⟩)] w fun e w'=>e= .returned (.bool (S.st != 0))∧ w=w':=by
 have c1:w.cell? ⟨p,7,none⟩=some (.int .i64 S.st):=hB.cell 7 rfl;go_enter Tryz.func14,Tryz.ntmps14
 go_wp2_with fail
 go_ret
 exact⟨rfl,rfl⟩
theorem zl4 (p pd:Nat)(S:BlkS)(A:Option Addr)(n c:Nat)(w:World)(hB:Blk w p 114 (bsrV S pd A n c)):Calls Tryz.prog 15 #[.pointer (some ⟨p,0,none⟩)] w fun e w'=>e= .returned (.bool (S.st == 1))∧ w=w':=by
 have c1:w.cell? ⟨p,7,none⟩=some (.int .i64 S.st):=hB.cell 7 rfl;go_enter Tryz.func15,Tryz.ntmps15
 go_wp2_with fail
 go_ret
 exact⟨rfl,rfl⟩
theorem zl5 (p pd:Nat)(S:BlkS)(A:Option Addr)(n c:Nat)(w:World)(hB:Blk w p 114 (bsrV S pd A n c)) :
 Calls Tryz.prog 55 #[.pointer (some ⟨p,0,none⟩)] w fun e w'=>e= .returned (.tuple #[])∧ Blk w' p 114 (bsrV (blkIdle S) pd A n c)∧ zd0 (fun k=>k=p) w w':=by
 have hs:Hid (Blk (w.setCell ⟨p,7,none⟩ (.int .i64 0)) p 114 (bsrV (blkIdle S) pd A n c)):=zak (hB.set_ 7 (.int .i64 0));have ho:zd0 (fun k=>k=p) w (w.setCell ⟨p,7,none⟩ (.int .i64 0)):=zd0.of_set (F:=fun k=>k=p) rfl _;have hz:=hB.lt;have c1:w.cell? ⟨p,7,none⟩=some (.int .i64 S.st):=hB.cell 7 rfl;have f1:=hB.frozen 7;go_enter Tryz.func55,Tryz.ntmps55
 go_wp2_with fail
 go_end0
 exact⟨rfl,hs.out,ho⟩
theorem zl6 (As:Option Addr)(ns cs:Nat)(w:World):Calls Tryz.prog 94 #[.slice As ns cs] w fun e w'=>e= .returned (.agg (outV As ns cs outZ none 0 0))∧ Below w.heap.size w w':=by
 have k1:=zdg w 93 (outV As ns cs outZ none 0 0);have hbw:=zc5 (Below.refl w.heap.size w) (.cells (outV As ns cs outZ none 0 0) 93);have HK:=zak k1;have HB:=zak hbw;clear k1 hbw;unfold outV outZ at HK HB;go_enter Tryz.func94,Tryz.ntmps94
 go_wp2_with fail
 exact zj2 (O:=outZ) rfl rfl rfl HK.out ⟨rfl,HB.out⟩
theorem zl7 (ix sub:Int)(code:Nat)(w:World):Calls Tryz.prog 95 #[.int .i64 ix,.int .i64 sub,.int .u32 (code:Nat)] w fun e w'=>e= .returned (.agg (msV (abM ix sub code) none 0 0))∧ Below w.heap.size w w':=by
 have q:=zdg w 95 (msV (abM ix sub code) none 0 0);have hbw:=zc5 (Below.refl w.heap.size w) (.cells (msV (abM ix sub code) none 0 0) 95);have HQ:=zak q;have HB:=zak hbw;clear q hbw;unfold msV abM at HQ HB;go_enter Tryz.func95,Tryz.ntmps95
 go_wp2_with fail
 exact zl1 (M:=abM ix sub code) rfl rfl rfl HQ.out ⟨rfl,HB.out⟩
theorem zl8 (k:Int)(w:World):Calls Tryz.prog 86 #[.int .i64 k] w fun e w'=>e= .returned (.bool (decide (k=1∨k=6∨k=8)))∧ w=w':=by
 have hcs:k=1∨k=6∨k=8∨(k≠1∧k≠6∧k≠8):=by omega
 rcases hcs with rfl | rfl | rfl | ⟨h1,h2,h3⟩
 · go_enter Tryz.func86,Tryz.ntmps86
   go_wp2_with fail
   go_ret
   exact⟨rfl,rfl⟩
 · go_enter Tryz.func86,Tryz.ntmps86
   go_wp2_with fail
   go_ret
   exact⟨rfl,rfl⟩
 · go_enter Tryz.func86,Tryz.ntmps86
   go_wp2_with fail
   go_ret
   exact⟨rfl,rfl⟩
 · have e1:(k == 1)=false:=by simp[h1]
   have e2:(k == 6)=false:=by simp[h2]
   have e3:(k == 8)=false:=by simp[h3]
   have HD:Hid (decide (k=1∨k=6∨k=8)=false):=zak (by simp[h1,h2,h3]);clear h1 h2 h3;go_enter Tryz.func86,Tryz.ntmps86
   go_wp2_with fail
   go_ret
   exact⟨by rw[HD.out];rfl,rfl⟩
def BAbR (p pd:Nat) (S:BlkS) (code:Nat) (A:Option Addr) (n c:Nat) (w:World) (e:Ending) (w':World):Prop:=
 (S.st=0→e= .returned (.slice none 0 0)∧ w'=w)∧
   (S.st≠0→ ∃g,w.heap.size≤g∧e= .returned (.slice (some ⟨g,0,none⟩) 1 1)∧ Blk w' g 95 (msV (abM S.ix S.sub code) none 0 0)∧ Blk w' p 114 (bsrV (blkIdle S) pd A n c)∧ zd0 (fun k=>k=p) w w')
def BAnR (p pd:Nat) (S:BlkS) (code:Nat) (A:Option Addr) (n c:Nat) (w:World) (e:Ending) (w':World):Prop:=
 (S.st≠3→e= .returned (.slice none 0 0)∧ w'=w)∧
   (S.st=3→ ∃g,w.heap.size≤g∧e= .returned (.slice (some ⟨g,0,none⟩) 1 1)∧ Blk w' g 95 (msV (if code=0 then okM 18 0 0 false else abM S.ix S.sub code) none 0 0)∧ Blk w' p 114 (bsrV (blkIdle S) pd A n c)∧ zd0 (fun k=>k=p) w w')
theorem zl9 (p pd:Nat)(S:BlkS)(code:Nat)(A:Option Addr)(n c:Nat)(w:World)(hB:Blk w p 114 (bsrV S pd A n c)) :
 Calls Tryz.prog 53 #[.pointer (some ⟨p,0,none⟩),.int .u32 (code:Nat)] w (BAbR p pd S code A n c w):=by
 have HB:=zak hB;clear hB;by_cases h0:S.st=0
 · have hf:(S.st != 0)=false:=by simp[h0]
   go_enter Tryz.func53,Tryz.ntmps53
   go_wp2_with fail
   refine (zl3 p pd S A n c _ HB.out).mono ?_;rintro e w1 ⟨rfl,rfl⟩;rw[hf];go_wp2_with fail
   go_ret
   exact⟨fun _=>⟨rfl,rfl⟩,fun h=>absurd h0 h⟩
 · have hf:(S.st != 0)=true:=by simp[h0]
   have hs:Hid (Blk (w.setCell ⟨p,7,none⟩ (.int .i64 0)) p 114 (bsrV (blkIdle S) pd A n c)):=zak (HB.out.set_ 7 (.int .i64 0));have ho:zd0 (fun k=>k=p) w (w.setCell ⟨p,7,none⟩ (.int .i64 0)):=zd0.of_set (F:=fun k=>k=p) rfl _;have hz:=HB.out.lt;have c1:w.cell? ⟨p,7,none⟩=some (.int .i64 S.st):=HB.out.cell 7 rfl;have f1:=HB.out.frozen 7;have q':=hs.out;unfold bsrV blkIdle at q';have hz0:(w.setCell ⟨p,7,none⟩ (.int .i64 0)).heap.size=w.heap.size:=by simp[World.setCell]
   have d2:(w.setCell ⟨p,7,none⟩ (.int .i64 0)).cell? ⟨p,8,none⟩=some (.int .i64 S.ix):=q'.cell 8 rfl;have d3:(w.setCell ⟨p,7,none⟩ (.int .i64 0)).cell? ⟨p,9,none⟩=some (.int .i64 S.sub):=q'.cell 9 rfl;go_enter Tryz.func53,Tryz.ntmps53
   go_wp2_with fail
   refine (zl3 p pd S A n c _ HB.out).mono ?_;rintro e w1 ⟨rfl,rfl⟩;rw[hf];clear q';go_wp2_with fail
   refine wp_region_held_drew (S:=(fun w'=>(∀qA:Addr,qA.block < ((w.setCell ⟨p,7,none⟩ (.int .i64 0))).heap.size→w'.cell? qA=((w.setCell ⟨p,7,none⟩ (.int .i64 0))).cell? qA)∧ Below ((w.setCell ⟨p,7,none⟩ (.int .i64 0))).heap.size ((w.setCell ⟨p,7,none⟩ (.int .i64 0))) w')) (by kernel_rfl) ?hS1 (fun hHeld=>?rest1)
   case hS1=>exact kSn
   case' rest1=>skip
   iterate 9 (refine tkN ?_;try simp only[PqL,Act.put])
   refine kRd 9 (fun K hK=>?_)
   go_simp
   refine (zl7 S.ix S.sub code _).mono ?_;rintro e w2 ⟨rfl,hb2⟩;have hz2:w.heap.size≤w2.heap.size:=by have:=hb2.size;rw[show (w.setCell ⟨p,7,none⟩ (.int .i64 0)).drew.heap.size=w.heap.size from hz0] at this;exact this
   have HG:=zak (Blk.new w2 95 (msV (abM S.ix S.sub code) none 0 0));unfold msV abM at HG;unfold msV abM;dsimp only;refine hK.out _ _ ?hS13 (fun hHeld=>?rest13)
   case hS13=>exact kSn
   case' rest13=>(clear hK K;try simp only[PqL,Act.put])
   refine kRd 10 (fun K hK=>?_)
   go_simp
   refine hK.out _ _ ?hS16 (fun hHeld=>?rest16)
   case hS16=>exact kSn
   case' rest16=>(clear hK K;try simp only[PqL,Act.put])
   refine tkH 11 ?_;try simp only[PqL,Act.put]
   refine wpAnyH_done (by kernel_rfl) ?_ _;have hEnd:=hHeld.2
   repeat (clear hHeld)
   go_wp2_with fail
   go_ret
   exact⟨fun h=>absurd h h0,fun _=>⟨w2.heap.size,hz2,rfl,HG.out,hs.out.below hEnd hs.out.lt,ho.trans (zd0.of_below (F:=fun k=>k=p) hEnd) (fun _ _ h=>h)⟩⟩
theorem zma (p pd:Nat)(S:BlkS)(code:Nat)(A:Option Addr)(n c:Nat)(w:World)(hB:Blk w p 114 (bsrV S pd A n c))(h0:S.st≠0) :
 Calls Tryz.prog 93 #[.pointer (some ⟨p,0,none⟩),.int .u32 (code:Nat)] w fun e w'=> ∃g,w.heap.size≤g∧e= .returned (.agg (outV (some ⟨g,0,none⟩) 1 1 outZ none 0 0))∧ Blk w' g 95 (msV (abM S.ix S.sub code) none 0 0)∧ Blk w' p 114 (bsrV (blkIdle S) pd A n c)∧ zd0 (fun k=>k=p) w w':=by
 have k1:=zdg w 93 (outV none 0 0 outZ none 0 0);have hbw:=zc5 (Below.refl w.heap.size w) (.cells (outV none 0 0 outZ none 0 0) 93);have hz:=hB.lt;have HA:=zak (zl9 p pd S code A n c _ (hB.below hbw hz));have HK:=zak k1;have HO:=zak (zd0.of_below (F:=fun k=>k=p) hbw);have H0:=zak h0;have HZ:Hid ((w.alloc (.cells (outV none 0 0 outZ none 0 0) 93)).heap.size=w.heap.size+1):=zak (by simp);clear hB hbw k1 h0;unfold outV outZ at HA HO HZ;go_enter Tryz.func93,Tryz.ntmps93
 go_wp2_with fail
 refine HA.out.mono ?_;rintro e w1 ⟨_,h1⟩;obtain⟨g,hg,rfl,hM,hP,ho⟩:=h1 H0.out;have hgz:w.heap.size < g:=by have:=HZ.out;omega
 have hk1:=zjo HK.out ho (show w.heap.size≠p by omega);have HP:=zak (zj4 hP (show p≠w.heap.size by omega) (some ⟨g,0,none⟩) 1 1 outZ none 0 0);have HM:=zak (zj4 hM (show g≠w.heap.size by omega) (some ⟨g,0,none⟩) 1 1 outZ none 0 0);have HO2:=zak (zj5 (HO.out.trans ho (fun _ _ h=>h)) (g:=w.heap.size) (Nat.le_refl _) (some ⟨g,0,none⟩) 1 1 outZ none 0 0);have HK1:=zak (zj3 (As':=some ⟨g,0,none⟩) (ns':=1) (cs':=1) (O':=outZ) (A':=none) (n':=0) (c':=0) hk1);unfold putO outZ at HP HM HO2 HK1;dsimp only at HP HM HO2 HK1;unfold outV outZ at hk1;obtain⟨lM,lN,lO,lP,lQ⟩:=zc9 hk1;have mW:=hk1.frozen;clear hM hP ho h1 HA
 go_wp2_with fail
 refine zj2 (O:=outZ) rfl rfl rfl HK1.out ?_;exact⟨g,by omega,rfl,HM.out,HP.out,HO2.out⟩
theorem zmb (p pd:Nat)(S:BlkS)(code:Nat)(A:Option Addr)(n c:Nat)(w:World)(hB:Blk w p 114 (bsrV S pd A n c)) :
 Calls Tryz.prog 38 #[.pointer (some ⟨p,0,none⟩),.int .u32 (code:Nat)] w (BAnR p pd S code A n c w):=by
 have HB:=zak hB;have c1:w.cell? ⟨p,7,none⟩=some (.int .i64 S.st):=hB.cell 7 rfl;have f1:=hB.frozen 7;have hz:=hB.lt;by_cases h3:S.st=3
 · rw[h3] at c1;have H3:=zak h3;clear h3;by_cases h0:code=0
   · subst h0;have hs:Hid (Blk (w.setCell ⟨p,7,none⟩ (.int .i64 0)) p 114 (bsrV (blkIdle S) pd A n c)):=zak (HB.out.set_ 7 (.int .i64 0));have ho:zd0 (fun k=>k=p) w (w.setCell ⟨p,7,none⟩ (.int .i64 0)):=zd0.of_set (F:=fun k=>k=p) rfl _;have hz0:(w.setCell ⟨p,7,none⟩ (.int .i64 0)).heap.size=w.heap.size:=by simp[World.setCell]
     have hg:=Blk.new (w.setCell ⟨p,7,none⟩ (.int .i64 0)) 95 (msV (okM 18 0 0 false) none 0 0);rw[hz0] at hg;have HR:=zak (And.intro hg (And.intro (hs.out.alloc (.cells (msV (okM 18 0 0 false) none 0 0) 95)) (ho.new (.cells (msV (okM 18 0 0 false) none 0 0) 95))));clear hg hs ho hz0 hB;unfold msV okM at HR;go_enter Tryz.func38,Tryz.ntmps38
     go_wp2_with fail
     go_ret
     exact⟨fun h=>absurd H3.out h,fun _=>⟨w.heap.size,Nat.le_refl _,rfl,HR.out⟩⟩
   · have HA:=zak (zl9 p pd S code A n c w hB);have HC:=zak h0;have hne: ¬(code:Int)=0:=by omega
     clear hB h0;go_enter Tryz.func38,Tryz.ntmps38
     go_wp2_with fail
     refine HA.out.mono ?_;rintro e w1 ⟨_,h1⟩;obtain⟨g,hg,rfl,hM,hP,ho⟩:=h1 (by rw[H3.out];decide);have HR:=zak (And.intro hM (And.intro hP ho));clear hM hP ho h1;go_wp2_with fail
     go_ret
     exact⟨fun h=>absurd H3.out h,fun _=>⟨g,hg,rfl,by rw[if_neg HC.out];exact HR.out.1,HR.out.2.1,HR.out.2.2⟩⟩
 · have hf:(S.st != 3)=true:=by simp[h3]
   have H3:=zak h3;clear hB h3;go_enter Tryz.func38,Tryz.ntmps38
   go_wp2_with fail
   go_ret
   exact⟨fun _=>⟨rfl,rfl⟩,fun h=>absurd h H3.out⟩
end
end Go.Proofs.YtkkpjbjmhaecjaaGreat
