/- None -/
import Derived.Test.YthdbckbpldlkeaaQ26
namespace Go.Proofs.Ythdbckbpldlkeaa
set_option linter.unusedVariables false
set_option linter.unusedSimpArgs false
set_option linter.unnecessarySimpa false
section
open Go.RowKit
set_option maxRecDepth 100000
set_option maxHeartbeats 4000000
theorem zki (b:Bool) (x y:Nat):(x:Int)+(if b=true then (y:Int) else 0)=(plB b x y:Nat):= by
 cases b<;>simp[plB]
def LatR (w:World) (B g:Nat) (l:List UInt8) (x:Nat) (e:Ending) (w':World):Prop:=e= .returned (.int .i64 (x:Nat))∧ Ow8 w' B g 8 l∧w.grownBy w' (some g)
theorem zkj {x:Nat} (h:x < 256):Value.int IntKind.u8 (x:Int)=bv (UInt8.ofNat x):= by
 simp only[bv,UInt8.toNat_ofNat']
 congr 1
 omega
theorem zkk (ix sub sq bl em size code sum n c:Nat) (tg la cr sz:Bool) (A:Option Addr) (data:List UInt8) (B g:Nat) (w:World) (h1:sum≤65535) (h2:bl≤127) (h3:sq≤127) (h4:em≤7) (hn:n=data.length) (hn7:n≤7) (hs:Sl w A (data.map bv)) (hB:Ow8 w B g 8 z8) (hg:g < w.heap.size) :
 Calls Try.prog 99 #[.agg #[.int .i64 7,.int .i64 (ix:Nat),.int .i64 (sub:Nat),.bool tg,.bool la,.bool cr,.bool sz,.int .u32 (size:Nat),.int .u32 (code:Nat),.slice A n c,.int .i64 (sq:Nat),.int .i64 (bl:Nat),.int .i64 (em:Nat),.int .u16 (sum:Nat)],.slice (some ⟨g,0,none⟩) 8 8] w (LatR w B g (putL z8 1 2 sum) (193+4 * em)):= by
 have hs1:=hs.alloc (.cells #[.int .i64 7,.int .i64 (ix:Nat),.int .i64 (sub:Nat),.bool tg,.bool la,.bool cr,.bool sz,.int .u32 (size:Nat),.int .u32 (code:Nat),.slice A n c,.int .i64 (sq:Nat),.int .i64 (bl:Nat),.int .i64 (em:Nat),.int .u16 (sum:Nat)] 72)
 have h0:Rt w (w.alloc (.cells #[.int .i64 7,.int .i64 (ix:Nat),.int .i64 (sub:Nat),.bool tg,.bool la,.bool cr,.bool sz,.int .u32 (size:Nat),.int .u32 (code:Nat),.slice A n c,.int .i64 (sq:Nat),.int .i64 (bl:Nat),.int .i64 (em:Nat),.int .u16 (sum:Nat)] 72)) w.heap.size B g z8 #[.int .i64 7,.int .i64 (ix:Nat),.int .i64 (sub:Nat),.bool tg,.bool la,.bool cr,.bool sz,.int .u32 (size:Nat),.int .u32 (code:Nat),.slice A n c,.int .i64 (sq:Nat),.int .i64 (bl:Nat),.int .i64 (em:Nat),.int .u16 (sum:Nat)]:=
  ⟨zbu w _ _,hB.alloc _,by omega,zbm (World.grownBy.refl _ _) _,rfl⟩
 have HN:=zak hn
 clear hs hB hn
 go_enter Try.func99,Try.ntmps99
 go_wp2_with fail
 refine (zkd 1 2 sum h0 (by omega) (by omega)).mono ?_
 rintro e w2 ⟨rfl,g1⟩
 have qm:=g1.m
 obtain⟨qm_c0,qm_c1,qm_c2,qm_c3,qm_c4,qm_c5,qm_c6,qm_c7,qm_c8,qm_c9,qm_c10,qm_c11,qm_c12,qm_c13⟩:= zbs qm
 have qm_f:=qm.frozen
 have zm:=qm.lt
 go_wp2_with fail
 go_ret
 exact⟨by first | rfl | (push_cast;rfl),g1.b,g1.gr⟩
theorem zkl (ix sub sq bl em size code sum n c:Nat) (tg la cr sz:Bool) (A:Option Addr) (data:List UInt8) (B g:Nat) (w:World) (h1:sum≤65535) (h2:bl≤127) (h3:sq≤127) (h4:em≤7) (hn:n=data.length) (hn7:n≤7) (hs:Sl w A (data.map bv)) (hB:Ow8 w B g 8 z8) (hg:g < w.heap.size) :
 Calls Try.prog 99 #[.agg #[.int .i64 20,.int .i64 (ix:Nat),.int .i64 (sub:Nat),.bool tg,.bool la,.bool cr,.bool sz,.int .u32 (size:Nat),.int .u32 (code:Nat),.slice A n c,.int .i64 (sq:Nat),.int .i64 (bl:Nat),.int .i64 (em:Nat),.int .u16 (sum:Nat)],.slice (some ⟨g,0,none⟩) 8 8] w (LatR w B g (putL z8 1 2 sum) (193+4 * em)):= by
 have hs1:=hs.alloc (.cells #[.int .i64 20,.int .i64 (ix:Nat),.int .i64 (sub:Nat),.bool tg,.bool la,.bool cr,.bool sz,.int .u32 (size:Nat),.int .u32 (code:Nat),.slice A n c,.int .i64 (sq:Nat),.int .i64 (bl:Nat),.int .i64 (em:Nat),.int .u16 (sum:Nat)] 72)
 have h0:Rt w (w.alloc (.cells #[.int .i64 20,.int .i64 (ix:Nat),.int .i64 (sub:Nat),.bool tg,.bool la,.bool cr,.bool sz,.int .u32 (size:Nat),.int .u32 (code:Nat),.slice A n c,.int .i64 (sq:Nat),.int .i64 (bl:Nat),.int .i64 (em:Nat),.int .u16 (sum:Nat)] 72)) w.heap.size B g z8 #[.int .i64 20,.int .i64 (ix:Nat),.int .i64 (sub:Nat),.bool tg,.bool la,.bool cr,.bool sz,.int .u32 (size:Nat),.int .u32 (code:Nat),.slice A n c,.int .i64 (sq:Nat),.int .i64 (bl:Nat),.int .i64 (em:Nat),.int .u16 (sum:Nat)]:=
  ⟨zbu w _ _,hB.alloc _,by omega,zbm (World.grownBy.refl _ _) _,rfl⟩
 have HN:=zak hn
 clear hs hB hn
 go_enter Try.func99,Try.ntmps99
 go_wp2_with fail
 refine (zkd 1 2 sum h0 (by omega) (by omega)).mono ?_
 rintro e w2 ⟨rfl,g1⟩
 have qm:=g1.m
 obtain⟨qm_c0,qm_c1,qm_c2,qm_c3,qm_c4,qm_c5,qm_c6,qm_c7,qm_c8,qm_c9,qm_c10,qm_c11,qm_c12,qm_c13⟩:= zbs qm
 have qm_f:=qm.frozen
 have zm:=qm.lt
 go_wp2_with fail
 go_ret
 exact⟨by first | rfl | (push_cast;rfl),g1.b,g1.gr⟩
theorem zkm (ix sub sq bl em size code sum n c:Nat) (tg la cr sz:Bool) (A:Option Addr) (data:List UInt8) (B g:Nat) (w:World) (h1:sum≤65535) (h2:bl≤127) (h3:sq≤127) (h4:em≤7) (hn:n=data.length) (hn7:n≤7) (hs:Sl w A (data.map bv)) (hB:Ow8 w B g 8 z8) (hg:g < w.heap.size) :
 Calls Try.prog 99 #[.agg #[.int .i64 8,.int .i64 (ix:Nat),.int .i64 (sub:Nat),.bool tg,.bool la,.bool cr,.bool sz,.int .u32 (size:Nat),.int .u32 (code:Nat),.slice A n c,.int .i64 (sq:Nat),.int .i64 (bl:Nat),.int .i64 (em:Nat),.int .u16 (sum:Nat)],.slice (some ⟨g,0,none⟩) 8 8] w (LatR w B g (z8.set 4 (UInt8.ofNat bl)) (plB cr 160 4)):= by
 have hs1:=hs.alloc (.cells #[.int .i64 8,.int .i64 (ix:Nat),.int .i64 (sub:Nat),.bool tg,.bool la,.bool cr,.bool sz,.int .u32 (size:Nat),.int .u32 (code:Nat),.slice A n c,.int .i64 (sq:Nat),.int .i64 (bl:Nat),.int .i64 (em:Nat),.int .u16 (sum:Nat)] 72)
 have h0:Rt w (w.alloc (.cells #[.int .i64 8,.int .i64 (ix:Nat),.int .i64 (sub:Nat),.bool tg,.bool la,.bool cr,.bool sz,.int .u32 (size:Nat),.int .u32 (code:Nat),.slice A n c,.int .i64 (sq:Nat),.int .i64 (bl:Nat),.int .i64 (em:Nat),.int .u16 (sum:Nat)] 72)) w.heap.size B g z8 #[.int .i64 8,.int .i64 (ix:Nat),.int .i64 (sub:Nat),.bool tg,.bool la,.bool cr,.bool sz,.int .u32 (size:Nat),.int .u32 (code:Nat),.slice A n c,.int .i64 (sq:Nat),.int .i64 (bl:Nat),.int .i64 (em:Nat),.int .u16 (sum:Nat)]:=
  ⟨zbu w _ _,hB.alloc _,by omega,zbm (World.grownBy.refl _ _) _,rfl⟩
 have HN:=zak hn
 have h0':=hB
 clear hs hB hn
 obtain⟨v4,k4,j4⟩:= h0.b.at8 4 (by omega)
 have hst:=h0'.set8 4 (UInt8.ofNat bl)
 rw[← zkj (by omega)] at hst
 have h5:Rt w ((w.setCell ⟨g,4,none⟩ (.int .u8 (bl:Nat))).alloc (.cells #[.int .i64 8,.int .i64 (ix:Nat),.int .i64 (sub:Nat),.bool tg,.bool la,.bool cr,.bool sz,.int .u32 (size:Nat),.int .u32 (code:Nat),.slice A n c,.int .i64 (sq:Nat),.int .i64 (bl:Nat),.int .i64 (em:Nat),.int .u16 (sum:Nat)] 72)) w.heap.size B g (z8.set 4 (UInt8.ofNat bl)) #[.int .i64 8,.int .i64 (ix:Nat),.int .i64 (sub:Nat),.bool tg,.bool la,.bool cr,.bool sz,.int .u32 (size:Nat),.int .u32 (code:Nat),.slice A n c,.int .i64 (sq:Nat),.int .i64 (bl:Nat),.int .i64 (em:Nat),.int .u16 (sum:Nat)]:=
  ⟨by have:=zbu (w.setCell ⟨g,4,none⟩ (.int .u8 (bl:Nat))) 72 #[.int .i64 8,.int .i64 (ix:Nat),.int .i64 (sub:Nat),.bool tg,.bool la,.bool cr,.bool sz,.int .u32 (size:Nat),.int .u32 (code:Nat),.slice A n c,.int .i64 (sq:Nat),.int .i64 (bl:Nat),.int .i64 (em:Nat),.int .u16 (sum:Nat)];simpa using this,hst.alloc _,by omega,zbm (zbl (World.grownBy.refl _ _) (.inl rfl) _ _) _,by simp[z8]⟩
 go_enter Try.func99,Try.ntmps99
 go_wp2_with fail
 refine (zj9 cr 4 _).mono ?_
 rintro e w2 ⟨rfl,rfl⟩
 cases cr
 all_goals
  go_wp2_with fail
  go_ret
  exact⟨rfl,h5.b,h5.gr⟩
theorem zkn (ix sub sq bl em size code sum n c:Nat) (tg la cr sz:Bool) (A:Option Addr) (data:List UInt8) (B g:Nat) (w:World) (h1:sum≤65535) (h2:bl≤127) (h3:sq≤127) (h4:em≤7) (hn:n=data.length) (hn7:n≤7) (hs:Sl w A (data.map bv)) (hB:Ow8 w B g 8 z8) (hg:g < w.heap.size) :
 Calls Try.prog 99 #[.agg #[.int .i64 16,.int .i64 (ix:Nat),.int .i64 (sub:Nat),.bool tg,.bool la,.bool cr,.bool sz,.int .u32 (size:Nat),.int .u32 (code:Nat),.slice A n c,.int .i64 (sq:Nat),.int .i64 (bl:Nat),.int .i64 (em:Nat),.int .u16 (sum:Nat)],.slice (some ⟨g,0,none⟩) 8 8] w (LatR w B g (z8.set 4 (UInt8.ofNat bl)) (plB cr 160 4)):= by
 have hs1:=hs.alloc (.cells #[.int .i64 16,.int .i64 (ix:Nat),.int .i64 (sub:Nat),.bool tg,.bool la,.bool cr,.bool sz,.int .u32 (size:Nat),.int .u32 (code:Nat),.slice A n c,.int .i64 (sq:Nat),.int .i64 (bl:Nat),.int .i64 (em:Nat),.int .u16 (sum:Nat)] 72)
 have h0:Rt w (w.alloc (.cells #[.int .i64 16,.int .i64 (ix:Nat),.int .i64 (sub:Nat),.bool tg,.bool la,.bool cr,.bool sz,.int .u32 (size:Nat),.int .u32 (code:Nat),.slice A n c,.int .i64 (sq:Nat),.int .i64 (bl:Nat),.int .i64 (em:Nat),.int .u16 (sum:Nat)] 72)) w.heap.size B g z8 #[.int .i64 16,.int .i64 (ix:Nat),.int .i64 (sub:Nat),.bool tg,.bool la,.bool cr,.bool sz,.int .u32 (size:Nat),.int .u32 (code:Nat),.slice A n c,.int .i64 (sq:Nat),.int .i64 (bl:Nat),.int .i64 (em:Nat),.int .u16 (sum:Nat)]:=
  ⟨zbu w _ _,hB.alloc _,by omega,zbm (World.grownBy.refl _ _) _,rfl⟩
 have HN:=zak hn
 have h0':=hB
 clear hs hB hn
 obtain⟨v4,k4,j4⟩:= h0.b.at8 4 (by omega)
 have hst:=h0'.set8 4 (UInt8.ofNat bl)
 rw[← zkj (by omega)] at hst
 have h5:Rt w ((w.setCell ⟨g,4,none⟩ (.int .u8 (bl:Nat))).alloc (.cells #[.int .i64 16,.int .i64 (ix:Nat),.int .i64 (sub:Nat),.bool tg,.bool la,.bool cr,.bool sz,.int .u32 (size:Nat),.int .u32 (code:Nat),.slice A n c,.int .i64 (sq:Nat),.int .i64 (bl:Nat),.int .i64 (em:Nat),.int .u16 (sum:Nat)] 72)) w.heap.size B g (z8.set 4 (UInt8.ofNat bl)) #[.int .i64 16,.int .i64 (ix:Nat),.int .i64 (sub:Nat),.bool tg,.bool la,.bool cr,.bool sz,.int .u32 (size:Nat),.int .u32 (code:Nat),.slice A n c,.int .i64 (sq:Nat),.int .i64 (bl:Nat),.int .i64 (em:Nat),.int .u16 (sum:Nat)]:=
  ⟨by have:=zbu (w.setCell ⟨g,4,none⟩ (.int .u8 (bl:Nat))) 72 #[.int .i64 16,.int .i64 (ix:Nat),.int .i64 (sub:Nat),.bool tg,.bool la,.bool cr,.bool sz,.int .u32 (size:Nat),.int .u32 (code:Nat),.slice A n c,.int .i64 (sq:Nat),.int .i64 (bl:Nat),.int .i64 (em:Nat),.int .u16 (sum:Nat)];simpa using this,hst.alloc _,by omega,zbm (zbl (World.grownBy.refl _ _) (.inl rfl) _ _) _,by simp[z8]⟩
 go_enter Try.func99,Try.ntmps99
 go_wp2_with fail
 refine (zj9 cr 4 _).mono ?_
 rintro e w2 ⟨rfl,rfl⟩
 cases cr
 all_goals
  go_wp2_with fail
  go_ret
  exact⟨rfl,h5.b,h5.gr⟩
theorem zko (ix sub sq bl em size code sum n c:Nat) (tg la cr sz:Bool) (A:Option Addr) (data:List UInt8) (B g:Nat) (w:World) (h1:sum≤65535) (h2:bl≤127) (h3:sq≤127) (h4:em≤7) (hn:n=data.length) (hn7:n≤7) (hs:Sl w A (data.map bv)) (hB:Ow8 w B g 8 z8) (hg:g < w.heap.size) :
 Calls Try.prog 99 #[.agg #[.int .i64 9,.int .i64 (ix:Nat),.int .i64 (sub:Nat),.bool tg,.bool la,.bool cr,.bool sz,.int .u32 (size:Nat),.int .u32 (code:Nat),.slice A n c,.int .i64 (sq:Nat),.int .i64 (bl:Nat),.int .i64 (em:Nat),.int .u16 (sum:Nat)],.slice (some ⟨g,0,none⟩) 8 8] w (LatR w B g (z8) (163)):= by
 have hs1:=hs.alloc (.cells #[.int .i64 9,.int .i64 (ix:Nat),.int .i64 (sub:Nat),.bool tg,.bool la,.bool cr,.bool sz,.int .u32 (size:Nat),.int .u32 (code:Nat),.slice A n c,.int .i64 (sq:Nat),.int .i64 (bl:Nat),.int .i64 (em:Nat),.int .u16 (sum:Nat)] 72)
 have h0:Rt w (w.alloc (.cells #[.int .i64 9,.int .i64 (ix:Nat),.int .i64 (sub:Nat),.bool tg,.bool la,.bool cr,.bool sz,.int .u32 (size:Nat),.int .u32 (code:Nat),.slice A n c,.int .i64 (sq:Nat),.int .i64 (bl:Nat),.int .i64 (em:Nat),.int .u16 (sum:Nat)] 72)) w.heap.size B g z8 #[.int .i64 9,.int .i64 (ix:Nat),.int .i64 (sub:Nat),.bool tg,.bool la,.bool cr,.bool sz,.int .u32 (size:Nat),.int .u32 (code:Nat),.slice A n c,.int .i64 (sq:Nat),.int .i64 (bl:Nat),.int .i64 (em:Nat),.int .u16 (sum:Nat)]:=
  ⟨zbu w _ _,hB.alloc _,by omega,zbm (World.grownBy.refl _ _) _,rfl⟩
 have HN:=zak hn
 clear hs hB hn
 go_enter Try.func99,Try.ntmps99
 go_wp2_with fail
 go_ret
 exact⟨rfl,h0.b,h0.gr⟩
theorem zkp (ix sub sq bl em size code sum n c:Nat) (tg la cr sz:Bool) (A:Option Addr) (data:List UInt8) (B g:Nat) (w:World) (h1:sum≤65535) (h2:bl≤127) (h3:sq≤127) (h4:em≤7) (hn:n=data.length) (hn7:n≤7) (hs:Sl w A (data.map bv)) (hB:Ow8 w B g 8 z8) (hg:g < w.heap.size) :
 Calls Try.prog 99 #[.agg #[.int .i64 10,.int .i64 (ix:Nat),.int .i64 (sub:Nat),.bool tg,.bool la,.bool cr,.bool sz,.int .u32 (size:Nat),.int .u32 (code:Nat),.slice A n c,.int .i64 (sq:Nat),.int .i64 (bl:Nat),.int .i64 (em:Nat),.int .u16 (sum:Nat)],.slice (some ⟨g,0,none⟩) 8 8] w (LatR w B g ((z8.set 1 (UInt8.ofNat sq)).set 2 (UInt8.ofNat bl)) (162)):= by
 have hs1:=hs.alloc (.cells #[.int .i64 10,.int .i64 (ix:Nat),.int .i64 (sub:Nat),.bool tg,.bool la,.bool cr,.bool sz,.int .u32 (size:Nat),.int .u32 (code:Nat),.slice A n c,.int .i64 (sq:Nat),.int .i64 (bl:Nat),.int .i64 (em:Nat),.int .u16 (sum:Nat)] 72)
 have h0:Rt w (w.alloc (.cells #[.int .i64 10,.int .i64 (ix:Nat),.int .i64 (sub:Nat),.bool tg,.bool la,.bool cr,.bool sz,.int .u32 (size:Nat),.int .u32 (code:Nat),.slice A n c,.int .i64 (sq:Nat),.int .i64 (bl:Nat),.int .i64 (em:Nat),.int .u16 (sum:Nat)] 72)) w.heap.size B g z8 #[.int .i64 10,.int .i64 (ix:Nat),.int .i64 (sub:Nat),.bool tg,.bool la,.bool cr,.bool sz,.int .u32 (size:Nat),.int .u32 (code:Nat),.slice A n c,.int .i64 (sq:Nat),.int .i64 (bl:Nat),.int .i64 (em:Nat),.int .u16 (sum:Nat)]:=
  ⟨zbu w _ _,hB.alloc _,by omega,zbm (World.grownBy.refl _ _) _,rfl⟩
 have HN:=zak hn
 have h0':=hB
 clear hs hB hn
 obtain⟨v1,k1,j1⟩:= h0'.at8 1 (by omega)
 obtain⟨v2,k2,j2⟩:= h0'.at8 2 (by omega)
 have hst:=(h0'.set8 1 (UInt8.ofNat sq)).set8 2 (UInt8.ofNat bl)
 rw[← zkj (by omega),← zkj (by omega)] at hst
 have h5:Rt w (((w.setCell ⟨g,1,none⟩ (.int .u8 (sq:Nat))).setCell ⟨g,2,none⟩ (.int .u8 (bl:Nat))).alloc (.cells #[.int .i64 10,.int .i64 (ix:Nat),.int .i64 (sub:Nat),.bool tg,.bool la,.bool cr,.bool sz,.int .u32 (size:Nat),.int .u32 (code:Nat),.slice A n c,.int .i64 (sq:Nat),.int .i64 (bl:Nat),.int .i64 (em:Nat),.int .u16 (sum:Nat)] 72)) w.heap.size B g ((z8.set 1 (UInt8.ofNat sq)).set 2 (UInt8.ofNat bl)) #[.int .i64 10,.int .i64 (ix:Nat),.int .i64 (sub:Nat),.bool tg,.bool la,.bool cr,.bool sz,.int .u32 (size:Nat),.int .u32 (code:Nat),.slice A n c,.int .i64 (sq:Nat),.int .i64 (bl:Nat),.int .i64 (em:Nat),.int .u16 (sum:Nat)]:=
  ⟨by have:=zbu ((w.setCell ⟨g,1,none⟩ (.int .u8 (sq:Nat))).setCell ⟨g,2,none⟩ (.int .u8 (bl:Nat))) 72 #[.int .i64 10,.int .i64 (ix:Nat),.int .i64 (sub:Nat),.bool tg,.bool la,.bool cr,.bool sz,.int .u32 (size:Nat),.int .u32 (code:Nat),.slice A n c,.int .i64 (sq:Nat),.int .i64 (bl:Nat),.int .i64 (em:Nat),.int .u16 (sum:Nat)];simpa using this,hst.alloc _,by omega,zbm (zbl (zbl (World.grownBy.refl _ _) (.inl rfl) _ _) (.inl rfl) _ _) _,by simp[z8]⟩
 go_enter Try.func99,Try.ntmps99
 go_wp2_with fail
 go_ret
 exact⟨rfl,h5.b,h5.gr⟩
theorem zkq (ix sub sq bl em size code sum n c:Nat) (tg la cr sz:Bool) (A:Option Addr) (data:List UInt8) (B g:Nat) (w:World) (h1:sum≤65535) (h2:bl≤127) (h3:sq≤127) (h4:em≤7) (hn:n=data.length) (hn7:n≤7) (hs:Sl w A (data.map bv)) (hB:Ow8 w B g 8 z8) (hg:g < w.heap.size) :
 Calls Try.prog 99 #[.agg #[.int .i64 17,.int .i64 (ix:Nat),.int .i64 (sub:Nat),.bool tg,.bool la,.bool cr,.bool sz,.int .u32 (size:Nat),.int .u32 (code:Nat),.slice A n c,.int .i64 (sq:Nat),.int .i64 (bl:Nat),.int .i64 (em:Nat),.int .u16 (sum:Nat)],.slice (some ⟨g,0,none⟩) 8 8] w (LatR w B g ((z8.set 1 (UInt8.ofNat sq)).set 2 (UInt8.ofNat bl)) (162)):= by
 have hs1:=hs.alloc (.cells #[.int .i64 17,.int .i64 (ix:Nat),.int .i64 (sub:Nat),.bool tg,.bool la,.bool cr,.bool sz,.int .u32 (size:Nat),.int .u32 (code:Nat),.slice A n c,.int .i64 (sq:Nat),.int .i64 (bl:Nat),.int .i64 (em:Nat),.int .u16 (sum:Nat)] 72)
 have h0:Rt w (w.alloc (.cells #[.int .i64 17,.int .i64 (ix:Nat),.int .i64 (sub:Nat),.bool tg,.bool la,.bool cr,.bool sz,.int .u32 (size:Nat),.int .u32 (code:Nat),.slice A n c,.int .i64 (sq:Nat),.int .i64 (bl:Nat),.int .i64 (em:Nat),.int .u16 (sum:Nat)] 72)) w.heap.size B g z8 #[.int .i64 17,.int .i64 (ix:Nat),.int .i64 (sub:Nat),.bool tg,.bool la,.bool cr,.bool sz,.int .u32 (size:Nat),.int .u32 (code:Nat),.slice A n c,.int .i64 (sq:Nat),.int .i64 (bl:Nat),.int .i64 (em:Nat),.int .u16 (sum:Nat)]:=
  ⟨zbu w _ _,hB.alloc _,by omega,zbm (World.grownBy.refl _ _) _,rfl⟩
 have HN:=zak hn
 have h0':=hB
 clear hs hB hn
 obtain⟨v1,k1,j1⟩:= h0'.at8 1 (by omega)
 obtain⟨v2,k2,j2⟩:= h0'.at8 2 (by omega)
 have hst:=(h0'.set8 1 (UInt8.ofNat sq)).set8 2 (UInt8.ofNat bl)
 rw[← zkj (by omega),← zkj (by omega)] at hst
 have h5:Rt w (((w.setCell ⟨g,1,none⟩ (.int .u8 (sq:Nat))).setCell ⟨g,2,none⟩ (.int .u8 (bl:Nat))).alloc (.cells #[.int .i64 17,.int .i64 (ix:Nat),.int .i64 (sub:Nat),.bool tg,.bool la,.bool cr,.bool sz,.int .u32 (size:Nat),.int .u32 (code:Nat),.slice A n c,.int .i64 (sq:Nat),.int .i64 (bl:Nat),.int .i64 (em:Nat),.int .u16 (sum:Nat)] 72)) w.heap.size B g ((z8.set 1 (UInt8.ofNat sq)).set 2 (UInt8.ofNat bl)) #[.int .i64 17,.int .i64 (ix:Nat),.int .i64 (sub:Nat),.bool tg,.bool la,.bool cr,.bool sz,.int .u32 (size:Nat),.int .u32 (code:Nat),.slice A n c,.int .i64 (sq:Nat),.int .i64 (bl:Nat),.int .i64 (em:Nat),.int .u16 (sum:Nat)]:=
  ⟨by have:=zbu ((w.setCell ⟨g,1,none⟩ (.int .u8 (sq:Nat))).setCell ⟨g,2,none⟩ (.int .u8 (bl:Nat))) 72 #[.int .i64 17,.int .i64 (ix:Nat),.int .i64 (sub:Nat),.bool tg,.bool la,.bool cr,.bool sz,.int .u32 (size:Nat),.int .u32 (code:Nat),.slice A n c,.int .i64 (sq:Nat),.int .i64 (bl:Nat),.int .i64 (em:Nat),.int .u16 (sum:Nat)];simpa using this,hst.alloc _,by omega,zbm (zbl (zbl (World.grownBy.refl _ _) (.inl rfl) _ _) (.inl rfl) _ _) _,by simp[z8]⟩
 go_enter Try.func99,Try.ntmps99
 go_wp2_with fail
 go_ret
 exact⟨rfl,h5.b,h5.gr⟩
theorem zkr (ix sub sq bl em size code sum n c:Nat) (tg la cr sz:Bool) (A:Option Addr) (data:List UInt8) (B g:Nat) (w:World) (h1:sum≤65535) (h2:bl≤127) (h3:sq≤127) (h4:em≤7) (hn:n=data.length) (hn7:n≤7) (hs:Sl w A (data.map bv)) (hB:Ow8 w B g 8 z8) (hg:g < w.heap.size) :
 Calls Try.prog 99 #[.agg #[.int .i64 11,.int .i64 (ix:Nat),.int .i64 (sub:Nat),.bool tg,.bool la,.bool cr,.bool sz,.int .u32 (size:Nat),.int .u32 (code:Nat),.slice A n c,.int .i64 (sq:Nat),.int .i64 (bl:Nat),.int .i64 (em:Nat),.int .u16 (sum:Nat)],.slice (some ⟨g,0,none⟩) 8 8] w (LatR w B g (z8) (161)):= by
 have hs1:=hs.alloc (.cells #[.int .i64 11,.int .i64 (ix:Nat),.int .i64 (sub:Nat),.bool tg,.bool la,.bool cr,.bool sz,.int .u32 (size:Nat),.int .u32 (code:Nat),.slice A n c,.int .i64 (sq:Nat),.int .i64 (bl:Nat),.int .i64 (em:Nat),.int .u16 (sum:Nat)] 72)
 have h0:Rt w (w.alloc (.cells #[.int .i64 11,.int .i64 (ix:Nat),.int .i64 (sub:Nat),.bool tg,.bool la,.bool cr,.bool sz,.int .u32 (size:Nat),.int .u32 (code:Nat),.slice A n c,.int .i64 (sq:Nat),.int .i64 (bl:Nat),.int .i64 (em:Nat),.int .u16 (sum:Nat)] 72)) w.heap.size B g z8 #[.int .i64 11,.int .i64 (ix:Nat),.int .i64 (sub:Nat),.bool tg,.bool la,.bool cr,.bool sz,.int .u32 (size:Nat),.int .u32 (code:Nat),.slice A n c,.int .i64 (sq:Nat),.int .i64 (bl:Nat),.int .i64 (em:Nat),.int .u16 (sum:Nat)]:=
  ⟨zbu w _ _,hB.alloc _,by omega,zbm (World.grownBy.refl _ _) _,rfl⟩
 have HN:=zak hn
 clear hs hB hn
 go_enter Try.func99,Try.ntmps99
 go_wp2_with fail
 go_ret
 exact⟨rfl,h0.b,h0.gr⟩
theorem zks (ix sub sq bl em size code sum n c:Nat) (tg la cr sz:Bool) (A:Option Addr) (data:List UInt8) (B g:Nat) (w:World) (h1:sum≤65535) (h2:bl≤127) (h3:sq≤127) (h4:em≤7) (hn:n=data.length) (hn7:n≤7) (hs:Sl w A (data.map bv)) (hB:Ow8 w B g 8 z8) (hg:g < w.heap.size) :
 Calls Try.prog 99 #[.agg #[.int .i64 18,.int .i64 (ix:Nat),.int .i64 (sub:Nat),.bool tg,.bool la,.bool cr,.bool sz,.int .u32 (size:Nat),.int .u32 (code:Nat),.slice A n c,.int .i64 (sq:Nat),.int .i64 (bl:Nat),.int .i64 (em:Nat),.int .u16 (sum:Nat)],.slice (some ⟨g,0,none⟩) 8 8] w (LatR w B g (z8) (161)):= by
 have hs1:=hs.alloc (.cells #[.int .i64 18,.int .i64 (ix:Nat),.int .i64 (sub:Nat),.bool tg,.bool la,.bool cr,.bool sz,.int .u32 (size:Nat),.int .u32 (code:Nat),.slice A n c,.int .i64 (sq:Nat),.int .i64 (bl:Nat),.int .i64 (em:Nat),.int .u16 (sum:Nat)] 72)
 have h0:Rt w (w.alloc (.cells #[.int .i64 18,.int .i64 (ix:Nat),.int .i64 (sub:Nat),.bool tg,.bool la,.bool cr,.bool sz,.int .u32 (size:Nat),.int .u32 (code:Nat),.slice A n c,.int .i64 (sq:Nat),.int .i64 (bl:Nat),.int .i64 (em:Nat),.int .u16 (sum:Nat)] 72)) w.heap.size B g z8 #[.int .i64 18,.int .i64 (ix:Nat),.int .i64 (sub:Nat),.bool tg,.bool la,.bool cr,.bool sz,.int .u32 (size:Nat),.int .u32 (code:Nat),.slice A n c,.int .i64 (sq:Nat),.int .i64 (bl:Nat),.int .i64 (em:Nat),.int .u16 (sum:Nat)]:=
  ⟨zbu w _ _,hB.alloc _,by omega,zbm (World.grownBy.refl _ _) _,rfl⟩
 have HN:=zak hn
 clear hs hB hn
 go_enter Try.func99,Try.ntmps99
 go_wp2_with fail
 go_ret
 exact⟨rfl,h0.b,h0.gr⟩
theorem zkt (ix sub sq bl em size code sum n c:Nat) (tg la cr sz:Bool) (A:Option Addr) (data:List UInt8) (B g:Nat) (w:World) (h1:sum≤65535) (h2:bl≤127) (h3:sq≤127) (h4:em≤7) (hn:n=data.length) (hn7:n≤7) (hs:Sl w A (data.map bv)) (hB:Ow8 w B g 8 z8) (hg:g < w.heap.size) :
 Calls Try.prog 99 #[.agg #[.int .i64 12,.int .i64 (ix:Nat),.int .i64 (sub:Nat),.bool tg,.bool la,.bool cr,.bool sz,.int .u32 (size:Nat),.int .u32 (code:Nat),.slice A n c,.int .i64 (sq:Nat),.int .i64 (bl:Nat),.int .i64 (em:Nat),.int .u16 (sum:Nat)],.slice (some ⟨g,0,none⟩) 8 8] w (LatR w B g (z8) (96)):= by
 have hs1:=hs.alloc (.cells #[.int .i64 12,.int .i64 (ix:Nat),.int .i64 (sub:Nat),.bool tg,.bool la,.bool cr,.bool sz,.int .u32 (size:Nat),.int .u32 (code:Nat),.slice A n c,.int .i64 (sq:Nat),.int .i64 (bl:Nat),.int .i64 (em:Nat),.int .u16 (sum:Nat)] 72)
 have h0:Rt w (w.alloc (.cells #[.int .i64 12,.int .i64 (ix:Nat),.int .i64 (sub:Nat),.bool tg,.bool la,.bool cr,.bool sz,.int .u32 (size:Nat),.int .u32 (code:Nat),.slice A n c,.int .i64 (sq:Nat),.int .i64 (bl:Nat),.int .i64 (em:Nat),.int .u16 (sum:Nat)] 72)) w.heap.size B g z8 #[.int .i64 12,.int .i64 (ix:Nat),.int .i64 (sub:Nat),.bool tg,.bool la,.bool cr,.bool sz,.int .u32 (size:Nat),.int .u32 (code:Nat),.slice A n c,.int .i64 (sq:Nat),.int .i64 (bl:Nat),.int .i64 (em:Nat),.int .u16 (sum:Nat)]:=
  ⟨zbu w _ _,hB.alloc _,by omega,zbm (World.grownBy.refl _ _) _,rfl⟩
 have HN:=zak hn
 clear hs hB hn
 go_enter Try.func99,Try.ntmps99
 go_wp2_with fail
 go_ret
 exact⟨rfl,h0.b,h0.gr⟩
theorem zku (ix sub sq bl em size code sum n c:Nat) (tg la cr sz:Bool) (A:Option Addr) (data:List UInt8) (B g:Nat) (w:World) (h1:sum≤65535) (h2:bl≤127) (h3:sq≤127) (h4:em≤7) (hn:n=data.length) (hn7:n≤7) (hs:Sl w A (data.map bv)) (hB:Ow8 w B g 8 z8) (hg:g < w.heap.size) :
 Calls Try.prog 99 #[.agg #[.int .i64 13,.int .i64 (ix:Nat),.int .i64 (sub:Nat),.bool tg,.bool la,.bool cr,.bool sz,.int .u32 (size:Nat),.int .u32 (code:Nat),.slice A n c,.int .i64 (sq:Nat),.int .i64 (bl:Nat),.int .i64 (em:Nat),.int .u16 (sum:Nat)],.slice (some ⟨g,0,none⟩) 8 8] w (LatR w B g (z8) (plB tg 32 16)):= by
 have hs1:=hs.alloc (.cells #[.int .i64 13,.int .i64 (ix:Nat),.int .i64 (sub:Nat),.bool tg,.bool la,.bool cr,.bool sz,.int .u32 (size:Nat),.int .u32 (code:Nat),.slice A n c,.int .i64 (sq:Nat),.int .i64 (bl:Nat),.int .i64 (em:Nat),.int .u16 (sum:Nat)] 72)
 have h0:Rt w (w.alloc (.cells #[.int .i64 13,.int .i64 (ix:Nat),.int .i64 (sub:Nat),.bool tg,.bool la,.bool cr,.bool sz,.int .u32 (size:Nat),.int .u32 (code:Nat),.slice A n c,.int .i64 (sq:Nat),.int .i64 (bl:Nat),.int .i64 (em:Nat),.int .u16 (sum:Nat)] 72)) w.heap.size B g z8 #[.int .i64 13,.int .i64 (ix:Nat),.int .i64 (sub:Nat),.bool tg,.bool la,.bool cr,.bool sz,.int .u32 (size:Nat),.int .u32 (code:Nat),.slice A n c,.int .i64 (sq:Nat),.int .i64 (bl:Nat),.int .i64 (em:Nat),.int .u16 (sum:Nat)]:=
  ⟨zbu w _ _,hB.alloc _,by omega,zbm (World.grownBy.refl _ _) _,rfl⟩
 have HN:=zak hn
 clear hs hB hn
 go_enter Try.func99,Try.ntmps99
 go_wp2_with fail
 refine (zj9 tg 16 _).mono ?_
 rintro e w2 ⟨rfl,rfl⟩
 have hpl:=zki tg 32 16
 cases tg
 all_goals
  go_wp2_with fail
  go_ret
  exact⟨rfl,h0.b,h0.gr⟩
theorem zkv (ix sub sq bl em size code sum n c:Nat) (tg la cr sz:Bool) (A:Option Addr) (data:List UInt8) (B g:Nat) (w:World) (h1:sum≤65535) (h2:bl≤127) (h3:sq≤127) (h4:em≤7) (hn:n=data.length) (hn7:n≤7) (hs:Sl w A (data.map bv)) (hB:Ow8 w B g 8 z8) (hg:g < w.heap.size) :
 Calls Try.prog 99 #[.agg #[.int .i64 21,.int .i64 (ix:Nat),.int .i64 (sub:Nat),.bool tg,.bool la,.bool cr,.bool sz,.int .u32 (size:Nat),.int .u32 (code:Nat),.slice A n c,.int .i64 (sq:Nat),.int .i64 (bl:Nat),.int .i64 (em:Nat),.int .u16 (sum:Nat)],.slice (some ⟨g,0,none⟩) 8 8] w (LatR w B g (cpL z8 1 data) (plB la sq 128)):= by
 have hs1:=hs.alloc (.cells #[.int .i64 21,.int .i64 (ix:Nat),.int .i64 (sub:Nat),.bool tg,.bool la,.bool cr,.bool sz,.int .u32 (size:Nat),.int .u32 (code:Nat),.slice A n c,.int .i64 (sq:Nat),.int .i64 (bl:Nat),.int .i64 (em:Nat),.int .u16 (sum:Nat)] 72)
 have h0:Rt w (w.alloc (.cells #[.int .i64 21,.int .i64 (ix:Nat),.int .i64 (sub:Nat),.bool tg,.bool la,.bool cr,.bool sz,.int .u32 (size:Nat),.int .u32 (code:Nat),.slice A n c,.int .i64 (sq:Nat),.int .i64 (bl:Nat),.int .i64 (em:Nat),.int .u16 (sum:Nat)] 72)) w.heap.size B g z8 #[.int .i64 21,.int .i64 (ix:Nat),.int .i64 (sub:Nat),.bool tg,.bool la,.bool cr,.bool sz,.int .u32 (size:Nat),.int .u32 (code:Nat),.slice A n c,.int .i64 (sq:Nat),.int .i64 (bl:Nat),.int .i64 (em:Nat),.int .u16 (sum:Nat)]:=
  ⟨zbu w _ _,hB.alloc _,by omega,zbm (World.grownBy.refl _ _) _,rfl⟩
 have HN:=zak hn
 clear hs hB hn
 go_enter Try.func99,Try.ntmps99
 go_wp2_with fail
 have zm:=h0.m.lt
 generalize w.alloc (.cells #[.int .i64 21,.int .i64 (ix:Nat),.int .i64 (sub:Nat),.bool tg,.bool la,.bool cr,.bool sz,.int .u32 (size:Nat),.int .u32 (code:Nat),.slice A n c,.int .i64 (sq:Nat),.int .i64 (bl:Nat),.int .i64 (em:Nat),.int .u16 (sum:Nat)] 72)=W at *
 have qm:=h0.m
 obtain⟨qm_c0,qm_c1,qm_c2,qm_c3,qm_c4,qm_c5,qm_c6,qm_c7,qm_c8,qm_c9,qm_c10,qm_c11,qm_c12,qm_c13⟩:= zbs qm
 have qm_f:=qm.frozen
 obtain⟨W9,hrun,g9,_⟩:= zke A n c 1 7 data h0.drew HN.out rfl (by omega) hs1.drew
 refine wp_region_held_drew (S:=(fun w'=>w'.cell? ⟨w.heap.size,9,none⟩=some (.slice A n c))) (by kernel_rfl) ?hS1 (fun hHeld=>?rest1)
 case hS1=>((try dsimp only);(exact h0.m.cell 9 rfl))
 case' rest1=>skip
 iterate 4 (refine tkN ?_;try simp only[PqL,Act.put])
 refine wpAnyH_ready (rs:= [4]) (by kernel_rfl) (by simp) ?_
 refine AllReadyH.cons (o:=_) rfl (fun K hK=>?_) AllReadyH.nil
 go_simp
 refine hK.out _ _ ?hS8 (fun hHeld=>?rest8)
 case hS8=>((try dsimp only);(exact g9.m.cell 9 rfl))
 case' rest8=>(clear hK K;try simp only[PqL,Act.put])
 refine wpAnyH_done (by kernel_rfl) ?_ _
 repeat (clear hHeld)
 clear qm_c0 qm_c1 qm_c2 qm_c3 qm_c4 qm_c5 qm_c6 qm_c7 qm_c8 qm_c9 qm_c10 qm_c11 qm_c12 qm_c13 qm_f
 clear zm qm
 have qm:=g9.m
 obtain⟨qm_c0,qm_c1,qm_c2,qm_c3,qm_c4,qm_c5,qm_c6,qm_c7,qm_c8,qm_c9,qm_c10,qm_c11,qm_c12,qm_c13⟩:= zbs qm
 have qm_f:=qm.frozen
 have zm:=qm.lt
 clear hrun
 go_wp2_with fail
 refine wp_region_held_drew (S:=(fun w'=>(∀ qA:Addr,qA.block < (W9).heap.size→w'.cell? qA=(W9).cell? qA)∧ Below (W9).heap.size (W9) w')) (by kernel_rfl) ?hS9 (fun hHeld=>?rest9)
 case hS9=>((try dsimp only);(((try go_split_ands);refine zbn ?_;repeat' (first | with_reducible assumption | with_reducible exact Below.refl _ _ | with_reducible apply zbp | with_reducible apply zb3 | with_reducible apply zb2 | (with_reducible apply zbo;with_reducible assumption) | (with_reducible apply zb4;(first | exact Nat.le_refl _ | (simp;done) | omega))))))
 case' rest9=>skip
 iterate 4 (refine tkN ?_;try simp only[PqL,Act.put])
 refine wpAnyH_ready (rs:= [4]) (by kernel_rfl) (by simp) ?_
 refine AllReadyH.cons (o:=_) rfl (fun K hK=>?_) AllReadyH.nil
 go_simp
 refine (zj9 la 128 _).mono ?_
 rintro e w2 ⟨rfl,rfl⟩
 try dsimp only
 refine hK.out _ _ ?hS16 (fun hHeld=>?rest16)
 case hS16=>((try dsimp only);(((try go_split_ands);refine zbn ?_;repeat' (first | with_reducible assumption | with_reducible exact Below.refl _ _ | with_reducible apply zbp | with_reducible apply zb3 | with_reducible apply zb2 | (with_reducible apply zbo;with_reducible assumption) | (with_reducible apply zb4;(first | exact Nat.le_refl _ | (simp;done) | omega))))))
 case' rest16=>(clear hK K;try simp only[PqL,Act.put])
 refine wpAnyH_ready (rs:= [5]) (by kernel_rfl) (by simp) ?_
 refine AllReadyH.cons (o:=_) rfl (fun K hK=>?_) AllReadyH.nil
 go_simp
 refine hK.out _ _ ?hS19 (fun hHeld=>?rest19)
 case hS19=>((try dsimp only);(((try go_split_ands);refine zbn ?_;repeat' (first | with_reducible assumption | with_reducible exact Below.refl _ _ | with_reducible apply zbp | with_reducible apply zb3 | with_reducible apply zb2 | (with_reducible apply zbo;with_reducible assumption) | (with_reducible apply zb4;(first | exact Nat.le_refl _ | (simp;done) | omega))))))
 case' rest19=>(clear hK K;try simp only[PqL,Act.put])
 refine wpAnyH_ready (rs:= [6]) (by kernel_rfl) (by simp) ?_
 refine AllReadyH.cons (o:=_) rfl (fun K hK=>?_) AllReadyH.nil
 go_simp
 refine hK.out _ _ ?hS22 (fun hHeld=>?rest22)
 case hS22=>((try dsimp only);(((try go_split_ands);refine zbn ?_;repeat' (first | with_reducible assumption | with_reducible exact Below.refl _ _ | with_reducible apply zbp | with_reducible apply zb3 | with_reducible apply zb2 | (with_reducible apply zbo;with_reducible assumption) | (with_reducible apply zb4;(first | exact Nat.le_refl _ | (simp;done) | omega))))))
 case' rest22=>(clear hK K;try simp only[PqL,Act.put])
 refine wpAnyH_done (by kernel_rfl) ?_ _
 have hEnd:=hHeld.2
 repeat (clear hHeld)
 have g8:Rt w W9.drew w.heap.size B g (cpL z8 1 data) #[.int .i64 21,.int .i64 (ix:Nat),.int .i64 (sub:Nat),.bool tg,.bool la,.bool cr,.bool sz,.int .u32 (size:Nat),.int .u32 (code:Nat),.slice A n c,.int .i64 (sq:Nat),.int .i64 (bl:Nat),.int .i64 (em:Nat),.int .u16 (sum:Nat)]:= g9.drew
 have hpl:=zki la sq 128
 clear hpl
 cases la
 all_goals
  go_wp2_with fail
  go_ret
  exact⟨zau (by first | (simp[plB];done) | (simp[plB];exact IntWalk.i64_in _ (by omega))),g8.b,g8.gr⟩
end
section
open Go.RowKit
def LaidR (w:World) (l:List UInt8) (e:Ending) (w':World):Prop:= ∃ g,e= .returned (.slice (some ⟨g,0,none⟩) 8 8)∧ zb7 w' w.heap.size (some ⟨g,0,none⟩) 8 8 l∧Below w.heap.size w w'
end
end Go.Proofs.Ythdbckbpldlkeaa
