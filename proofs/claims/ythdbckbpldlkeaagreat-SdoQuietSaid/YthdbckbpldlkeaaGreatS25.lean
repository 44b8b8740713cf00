/- None -/
import Derived.Test.YthdbckbpldlkeaaGreatS24
namespace Go.Proofs.YthdbckbpldlkeaaGreat
set_option linter.unusedVariables false
set_option linter.unusedSimpArgs false
set_option linter.unnecessarySimpa false
section
section
open Go.RowKit
set_option maxRecDepth 100000
set_option maxHeartbeats 4000000
theorem zkx (p pd:Nat) (S:SegS) (code:Nat) (A:Option Addr) (n c:Nat) (w:World) (hB:Blk w p 199 (srvV S pd A n c)) :
 Calls Tryz.prog 75 #[.pointer (some ⟨p,0,none⟩),.int .u32 (code:Nat)] w fun e w'=>(S.st≠3→e= .returned (.slice none 0 0)∧ w'=w)∧
  (S.st=3→ ∃ g,w.heap.size≤g∧e= .returned (.slice (some ⟨g,0,none⟩) 1 1)∧ Blk w' g 102 (msV (if code=0 then wellM S else abM S.ix S.sub code) none 0 0)∧ Blk w' p 199 (srvV (segIdle S) pd A n c)∧ zdv (fun k=>k=p) w w'):= by
 have HB:=zak hB
 have c1:w.cell? ⟨p,1,none⟩=some (.int .i64 S.st):= hB.cell 1 rfl
 have hz:=hB.lt
 by_cases h3:S.st=3
 · rw[h3] at c1
   have H3:=zak h3
   clear h3
   by_cases h0:code=0
   · subst h0
     have bb:=hB
     unfold srvV at bb
     rw[H3.out] at bb
     obtain⟨bb_c0,bb_c1,bb_c2,bb_c3,bb_c4,bb_c5,bb_c6,bb_c7,bb_c8,bb_c9,bb_c10,bb_c11,bb_c12,bb_c13,bb_c14,bb_c15,bb_c16,bb_c17,bb_c18,bb_c19,bb_c20,bb_c21⟩:= zda bb
     have bb_f:=bb.frozen
     have hs:Hid (Blk (w.setCell ⟨p,1,none⟩ (.int .i64 0)) p 199 (srvV (segIdle S) pd A n c)):= zak (HB.out.set_ 1 (.int .i64 0))
     have ho:zdv (fun k=>k=p) w (w.setCell ⟨p,1,none⟩ (.int .i64 0)):= zdv.of_set (F:=fun k=>k=p) rfl _
     have hz0:(w.setCell ⟨p,1,none⟩ (.int .i64 0)).heap.size=w.heap.size:=by simp[World.setCell]
     have hg:=Blk.new (w.setCell ⟨p,1,none⟩ (.int .i64 0)) 102 (msV (wellM S) none 0 0)
     rw[hz0] at hg
     have HR:=zak (And.intro hg (And.intro (hs.out.alloc (.cells (msV (wellM S) none 0 0) 102)) (ho.new (.cells (msV (wellM S) none 0 0) 102))))
     clear hg hs ho hz0 hB bb
     unfold msV wellM okM at HR
     go_enter Tryz.func75,Tryz.ntmps75
     go_wp2_with fail
     go_ret
     exact⟨fun h=>absurd H3.out h,fun _=>⟨w.heap.size,Nat.le_refl _,rfl,HR.out⟩⟩
   · have HA:=zak (zjm p pd S code A n c w hB)
     have HC:=zak h0
     have hne: ¬ (code:Int)=0:=by omega
     clear hB h0
     go_enter Tryz.func75,Tryz.ntmps75
     go_wp2_with fail
     refine HA.out.mono ?_
     rintro e w1 ⟨_,h5⟩
     obtain⟨g,hg,rfl,hBg,hBp,ho⟩:= h5 (by rw[H3.out];decide)
     have HX:=zak (And.intro hBg (And.intro hBp ho))
     clear hBg hBp ho h5
     go_wp2_with fail
     go_ret
     exact⟨fun h=>absurd H3.out h,fun _=>⟨g,hg,rfl,HX.out⟩⟩
 · obtain⟨s,hs⟩:∃ s,s=S.st:=⟨_,rfl⟩
   have H3:=zak h3
   rw[← hs] at c1
   have hne:(s == 3)=false:=by simp[hs,h3]
   have hne2: ¬ s=3:=by rw[hs];exact h3
   clear hB hs h3
   go_enter Tryz.func75,Tryz.ntmps75
   go_wp2_with fail
   all_goals
    go_ret
    exact⟨fun _=>⟨rfl,rfl⟩,fun h=>absurd h H3.out⟩
theorem zky {w W' w3:World} {G G':Nat→Prop} {p pd:Nat} {S':SegS} {O:SegO} {X:Nat→Prop} {As:Option Addr} {ns cs:Nat} {A:Option Addr} {n c:Nat} (hz:w.heap.size+2≤W'.heap.size) (hO:zdv (fun q=>q=p) w W') (hp:p < w.heap.size) (hK:Blk W' (w.heap.size+1) 100 (outV none 0 0 outZ none 0 0)) (hG:∀ q,G' q→(G q∨w.heap.size≤q)∧ q≠w.heap.size+1)
 (h1:MsR w3 W'.heap.size X As ns cs O.ms) (h2:zdq w3 W'.heap.size A n c O.b) (h3:FIn X A) (h4:SV_ w3 (fun q=>(G' q∨W'.heap.size≤q)∧ ¬ X q) p pd S') (h5:zdv (fun q=>q=p) W' w3) :
 Blk (putO w3 (w.heap.size+1) As ns cs O A n c) (w.heap.size+1) 100 (outV As ns cs O A n c)∧ SOutR w G p pd S' O (.returned (.agg (outV As ns cs O A n c))) (putO w3 (w.heap.size+1) As ns cs O A n c):= by
 have hK3:=ziz hK h5 (by omega)
 refine⟨zje hK3,X,As,ns,cs,A,n,c,rfl,?_,(zjh h2 (by omega) _ _ _ _ _ _ _).mono (by omega),h3,?_,zjg (hO.trans h5 (fun _ _ h=>h)) (by omega) _ _ _ _ _ _ _⟩
 · rcases h1 with ⟨a,b,c',d⟩ | ⟨M,g,A',n',c',a,b,c1,d,e,f,g1,g2⟩
   · exact .inl ⟨a,b,c',d⟩
   · exact .inr ⟨M,g,A',n',c',a,b,c1,d,by omega,zjf f (by omega) _ _ _ _ _ _ _,(zjh g1 (by omega) _ _ _ _ _ _ _).mono (by omega),g2⟩
 · refine h4.keep (fun q hq hlt=>zj4 ?_ _ _ _ _ _ _ _) (by rw[zj5];exact Nat.le_refl _) (fun q _ hq=>⟨?_,hq.2⟩)
   · rcases hq with rfl | hq
     · omega
     · rcases hq.1 with h | h
       · exact (hG q h).2
       · omega
   · rcases hq.1 with h | h
     · exact (hG q h).1
     · exact .inr (by omega)
end
section
open Go.RowKit
set_option maxRecDepth 100000
set_option maxHeartbeats 4000000
def zsrv:Array Value:= #[.pointer none,.int .i64 0,.int .i64 0,.int .i64 0,.int .i64 0,.int .i64 0,.slice none 0 0,.bool false,.int .i64 0,.int .i64 0,.int .i64 0,.bool false,.bool false,.bool false,.bool false,.int .u32 0,.int .u32 0,.slice none 0 0,.int .i64 0,.int .i64 0,.int .i64 0,.int .u16 0]
end
end
end Go.Proofs.YthdbckbpldlkeaaGreat
