/- None -/
import Derived.Test.YthdbckbpldlkeaaQ23
namespace Go.Proofs.Ythdbckbpldlkeaa
set_option linter.unusedVariables false
set_option linter.unusedSimpArgs false
set_option linter.unnecessarySimpa false
section
open Go.RowKit
set_option maxRecDepth 100000
set_option maxHeartbeats 4000000
theorem zjs (M:Ms) (A:Option Addr) (n c:Nat) (w:World) (hn:n=M.data.length) (h1:1≤M.kind) (h2:M.kind≤21):Calls Try.prog 95 #[.agg (msV M A n c)] w (NamedR M.kind M A n c w):= by
 have h:M.kind=1∨M.kind=2∨M.kind=3∨M.kind=4∨M.kind=5∨M.kind=6∨M.kind=7∨M.kind=8∨M.kind=9∨M.kind=10∨M.kind=11∨M.kind=12∨M.kind=13∨M.kind=14∨M.kind=15∨M.kind=16∨M.kind=17∨M.kind=18∨M.kind=19∨M.kind=20∨M.kind=21:=by omega
 rcases h with h | h | h | h | h | h | h | h | h | h | h | h | h | h | h | h | h | h | h | h | h
 · rw[h];exact zi7 M A n c w hn h
 · rw[h];exact zi8 M A n c w hn h
 · rw[h];exact zja M A n c w hn h
 · rw[h];exact zjc M A n c w hn h
 · rw[h];exact zje M A n c w hn h
 · rw[h];exact zjg M A n c w hn h
 · rw[h];exact zji M A n c w hn h
 · rw[h];exact zjk M A n c w hn h
 · rw[h];exact zjo M A n c w hn h
 · rw[h];exact zjm M A n c w hn h
 · rw[h];exact zjp M A n c w hn h
 · rw[h];exact zjd M A n c w hn h
 · rw[h];exact zjf M A n c w hn h
 · rw[h];exact zi9 M A n c w hn h
 · rw[h];exact zjb M A n c w hn h
 · rw[h];exact zjl M A n c w hn h
 · rw[h];exact zjn M A n c w hn h
 · rw[h];exact zjq M A n c w hn h
 · rw[h];exact zjh M A n c w hn h
 · rw[h];exact zjj M A n c w hn h
 · rw[h];exact zjr M A n c w hn h
end
section
open Go.RowKit
set_option maxRecDepth 100000
set_option maxHeartbeats 8000000
theorem zjt (kind:Int) (ix:Int) (sub:Int) (tg:Bool) (la:Bool) (cr:Bool) (sz:Bool) (size:Nat) (code:Nat) (sq:Int) (bl:Int) (em:Int) (sum:Nat) (kind':Int) (ix':Int) (sub':Int) (tg':Bool) (la':Bool) (cr':Bool) (sz':Bool) (size':Nat) (code':Nat) (sq':Int) (bl':Int) (em':Int) (sum':Nat) (s:ByteArray) (s':ByteArray) (A1 A2:Option Addr) (n1 c1 n2 c2:Nat) (w:World) (hne: ¬ kind=kind')
 (t1:(convert 32 9 (.slice A1 n1 c1)).run Try.prog ((w.alloc (.cells #[.int .i64 kind,.int .i64 ix,.int .i64 sub,.bool tg,.bool la,.bool cr,.bool sz,.int .u32 (size:Nat),.int .u32 (code:Nat),.slice A1 n1 c1,.int .i64 sq,.int .i64 bl,.int .i64 em,.int .u16 (sum:Nat)] 72)).alloc (.cells #[.int .i64 kind',.int .i64 ix',.int .i64 sub',.bool tg',.bool la',.bool cr',.bool sz',.int .u32 (size':Nat),.int .u32 (code':Nat),.slice A2 n2 c2,.int .i64 sq',.int .i64 bl',.int .i64 em',.int .u16 (sum':Nat)] 72))= .ok (.string s) ((w.alloc (.cells #[.int .i64 kind,.int .i64 ix,.int .i64 sub,.bool tg,.bool la,.bool cr,.bool sz,.int .u32 (size:Nat),.int .u32 (code:Nat),.slice A1 n1 c1,.int .i64 sq,.int .i64 bl,.int .i64 em,.int .u16 (sum:Nat)] 72)).alloc (.cells #[.int .i64 kind',.int .i64 ix',.int .i64 sub',.bool tg',.bool la',.bool cr',.bool sz',.int .u32 (size':Nat),.int .u32 (code':Nat),.slice A2 n2 c2,.int .i64 sq',.int .i64 bl',.int .i64 em',.int .u16 (sum':Nat)] 72)))
 (t2:(convert 32 9 (.slice A2 n2 c2)).run Try.prog ((w.alloc (.cells #[.int .i64 kind,.int .i64 ix,.int .i64 sub,.bool tg,.bool la,.bool cr,.bool sz,.int .u32 (size:Nat),.int .u32 (code:Nat),.slice A1 n1 c1,.int .i64 sq,.int .i64 bl,.int .i64 em,.int .u16 (sum:Nat)] 72)).alloc (.cells #[.int .i64 kind',.int .i64 ix',.int .i64 sub',.bool tg',.bool la',.bool cr',.bool sz',.int .u32 (size':Nat),.int .u32 (code':Nat),.slice A2 n2 c2,.int .i64 sq',.int .i64 bl',.int .i64 em',.int .u16 (sum':Nat)] 72))= .ok (.string s') ((w.alloc (.cells #[.int .i64 kind,.int .i64 ix,.int .i64 sub,.bool tg,.bool la,.bool cr,.bool sz,.int .u32 (size:Nat),.int .u32 (code:Nat),.slice A1 n1 c1,.int .i64 sq,.int .i64 bl,.int .i64 em,.int .u16 (sum:Nat)] 72)).alloc (.cells #[.int .i64 kind',.int .i64 ix',.int .i64 sub',.bool tg',.bool la',.bool cr',.bool sz',.int .u32 (size':Nat),.int .u32 (code':Nat),.slice A2 n2 c2,.int .i64 sq',.int .i64 bl',.int .i64 em',.int .u16 (sum':Nat)] 72))) :
 Calls Try.prog 96 #[.agg #[.int .i64 kind,.int .i64 ix,.int .i64 sub,.bool tg,.bool la,.bool cr,.bool sz,.int .u32 (size:Nat),.int .u32 (code:Nat),.slice A1 n1 c1,.int .i64 sq,.int .i64 bl,.int .i64 em,.int .u16 (sum:Nat)],.agg #[.int .i64 kind',.int .i64 ix',.int .i64 sub',.bool tg',.bool la',.bool cr',.bool sz',.int .u32 (size':Nat),.int .u32 (code':Nat),.slice A2 n2 c2,.int .i64 sq',.int .i64 bl',.int .i64 em',.int .u16 (sum':Nat)]] w fun e w'=>e= .returned (.bool false)∧ Below w.heap.size w w':=by
 have hx:(kind == kind')=false:=by simpa using hne
 clear hne
 clear t1 t2
 go_enter Try.func96,Try.ntmps96
 go_wp2_with fail
 all_goals
  go_ret
  exact⟨rfl,zbp (zbp (Below.refl _ _) _) _⟩
theorem zju (kind:Int) (ix:Int) (sub:Int) (tg:Bool) (la:Bool) (cr:Bool) (sz:Bool) (size:Nat) (code:Nat) (sq:Int) (bl:Int) (em:Int) (sum:Nat) (ix':Int) (sub':Int) (tg':Bool) (la':Bool) (cr':Bool) (sz':Bool) (size':Nat) (code':Nat) (sq':Int) (bl':Int) (em':Int) (sum':Nat) (s:ByteArray) (s':ByteArray) (A1 A2:Option Addr) (n1 c1 n2 c2:Nat) (w:World) (hne: ¬ ix=ix')
 (t1:(convert 32 9 (.slice A1 n1 c1)).run Try.prog ((w.alloc (.cells #[.int .i64 kind,.int .i64 ix,.int .i64 sub,.bool tg,.bool la,.bool cr,.bool sz,.int .u32 (size:Nat),.int .u32 (code:Nat),.slice A1 n1 c1,.int .i64 sq,.int .i64 bl,.int .i64 em,.int .u16 (sum:Nat)] 72)).alloc (.cells #[.int .i64 kind,.int .i64 ix',.int .i64 sub',.bool tg',.bool la',.bool cr',.bool sz',.int .u32 (size':Nat),.int .u32 (code':Nat),.slice A2 n2 c2,.int .i64 sq',.int .i64 bl',.int .i64 em',.int .u16 (sum':Nat)] 72))= .ok (.string s) ((w.alloc (.cells #[.int .i64 kind,.int .i64 ix,.int .i64 sub,.bool tg,.bool la,.bool cr,.bool sz,.int .u32 (size:Nat),.int .u32 (code:Nat),.slice A1 n1 c1,.int .i64 sq,.int .i64 bl,.int .i64 em,.int .u16 (sum:Nat)] 72)).alloc (.cells #[.int .i64 kind,.int .i64 ix',.int .i64 sub',.bool tg',.bool la',.bool cr',.bool sz',.int .u32 (size':Nat),.int .u32 (code':Nat),.slice A2 n2 c2,.int .i64 sq',.int .i64 bl',.int .i64 em',.int .u16 (sum':Nat)] 72)))
 (t2:(convert 32 9 (.slice A2 n2 c2)).run Try.prog ((w.alloc (.cells #[.int .i64 kind,.int .i64 ix,.int .i64 sub,.bool tg,.bool la,.bool cr,.bool sz,.int .u32 (size:Nat),.int .u32 (code:Nat),.slice A1 n1 c1,.int .i64 sq,.int .i64 bl,.int .i64 em,.int .u16 (sum:Nat)] 72)).alloc (.cells #[.int .i64 kind,.int .i64 ix',.int .i64 sub',.bool tg',.bool la',.bool cr',.bool sz',.int .u32 (size':Nat),.int .u32 (code':Nat),.slice A2 n2 c2,.int .i64 sq',.int .i64 bl',.int .i64 em',.int .u16 (sum':Nat)] 72))= .ok (.string s') ((w.alloc (.cells #[.int .i64 kind,.int .i64 ix,.int .i64 sub,.bool tg,.bool la,.bool cr,.bool sz,.int .u32 (size:Nat),.int .u32 (code:Nat),.slice A1 n1 c1,.int .i64 sq,.int .i64 bl,.int .i64 em,.int .u16 (sum:Nat)] 72)).alloc (.cells #[.int .i64 kind,.int .i64 ix',.int .i64 sub',.bool tg',.bool la',.bool cr',.bool sz',.int .u32 (size':Nat),.int .u32 (code':Nat),.slice A2 n2 c2,.int .i64 sq',.int .i64 bl',.int .i64 em',.int .u16 (sum':Nat)] 72))) :
 Calls Try.prog 96 #[.agg #[.int .i64 kind,.int .i64 ix,.int .i64 sub,.bool tg,.bool la,.bool cr,.bool sz,.int .u32 (size:Nat),.int .u32 (code:Nat),.slice A1 n1 c1,.int .i64 sq,.int .i64 bl,.int .i64 em,.int .u16 (sum:Nat)],.agg #[.int .i64 kind,.int .i64 ix',.int .i64 sub',.bool tg',.bool la',.bool cr',.bool sz',.int .u32 (size':Nat),.int .u32 (code':Nat),.slice A2 n2 c2,.int .i64 sq',.int .i64 bl',.int .i64 em',.int .u16 (sum':Nat)]] w fun e w'=>e= .returned (.bool false)∧ Below w.heap.size w w':=by
 have hx:(ix == ix')=false:=by simpa using hne
 clear hne
 clear t1 t2
 go_enter Try.func96,Try.ntmps96
 go_wp2_with fail
 all_goals
  go_ret
  exact⟨rfl,zbp (zbp (Below.refl _ _) _) _⟩
theorem zjv (kind:Int) (ix:Int) (sub:Int) (tg:Bool) (la:Bool) (cr:Bool) (sz:Bool) (size:Nat) (code:Nat) (sq:Int) (bl:Int) (em:Int) (sum:Nat) (sub':Int) (tg':Bool) (la':Bool) (cr':Bool) (sz':Bool) (size':Nat) (code':Nat) (sq':Int) (bl':Int) (em':Int) (sum':Nat) (s:ByteArray) (s':ByteArray) (A1 A2:Option Addr) (n1 c1 n2 c2:Nat) (w:World) (hne: ¬ sub=sub')
 (t1:(convert 32 9 (.slice A1 n1 c1)).run Try.prog ((w.alloc (.cells #[.int .i64 kind,.int .i64 ix,.int .i64 sub,.bool tg,.bool la,.bool cr,.bool sz,.int .u32 (size:Nat),.int .u32 (code:Nat),.slice A1 n1 c1,.int .i64 sq,.int .i64 bl,.int .i64 em,.int .u16 (sum:Nat)] 72)).alloc (.cells #[.int .i64 kind,.int .i64 ix,.int .i64 sub',.bool tg',.bool la',.bool cr',.bool sz',.int .u32 (size':Nat),.int .u32 (code':Nat),.slice A2 n2 c2,.int .i64 sq',.int .i64 bl',.int .i64 em',.int .u16 (sum':Nat)] 72))= .ok (.string s) ((w.alloc (.cells #[.int .i64 kind,.int .i64 ix,.int .i64 sub,.bool tg,.bool la,.bool cr,.bool sz,.int .u32 (size:Nat),.int .u32 (code:Nat),.slice A1 n1 c1,.int .i64 sq,.int .i64 bl,.int .i64 em,.int .u16 (sum:Nat)] 72)).alloc (.cells #[.int .i64 kind,.int .i64 ix,.int .i64 sub',.bool tg',.bool la',.bool cr',.bool sz',.int .u32 (size':Nat),.int .u32 (code':Nat),.slice A2 n2 c2,.int .i64 sq',.int .i64 bl',.int .i64 em',.int .u16 (sum':Nat)] 72)))
 (t2:(convert 32 9 (.slice A2 n2 c2)).run Try.prog ((w.alloc (.cells #[.int .i64 kind,.int .i64 ix,.int .i64 sub,.bool tg,.bool la,.bool cr,.bool sz,.int .u32 (size:Nat),.int .u32 (code:Nat),.slice A1 n1 c1,.int .i64 sq,.int .i64 bl,.int .i64 em,.int .u16 (sum:Nat)] 72)).alloc (.cells #[.int .i64 kind,.int .i64 ix,.int .i64 sub',.bool tg',.bool la',.bool cr',.bool sz',.int .u32 (size':Nat),.int .u32 (code':Nat),.slice A2 n2 c2,.int .i64 sq',.int .i64 bl',.int .i64 em',.int .u16 (sum':Nat)] 72))= .ok (.string s') ((w.alloc (.cells #[.int .i64 kind,.int .i64 ix,.int .i64 sub,.bool tg,.bool la,.bool cr,.bool sz,.int .u32 (size:Nat),.int .u32 (code:Nat),.slice A1 n1 c1,.int .i64 sq,.int .i64 bl,.int .i64 em,.int .u16 (sum:Nat)] 72)).alloc (.cells #[.int .i64 kind,.int .i64 ix,.int .i64 sub',.bool tg',.bool la',.bool cr',.bool sz',.int .u32 (size':Nat),.int .u32 (code':Nat),.slice A2 n2 c2,.int .i64 sq',.int .i64 bl',.int .i64 em',.int .u16 (sum':Nat)] 72))) :
 Calls Try.prog 96 #[.agg #[.int .i64 kind,.int .i64 ix,.int .i64 sub,.bool tg,.bool la,.bool cr,.bool sz,.int .u32 (size:Nat),.int .u32 (code:Nat),.slice A1 n1 c1,.int .i64 sq,.int .i64 bl,.int .i64 em,.int .u16 (sum:Nat)],.agg #[.int .i64 kind,.int .i64 ix,.int .i64 sub',.bool tg',.bool la',.bool cr',.bool sz',.int .u32 (size':Nat),.int .u32 (code':Nat),.slice A2 n2 c2,.int .i64 sq',.int .i64 bl',.int .i64 em',.int .u16 (sum':Nat)]] w fun e w'=>e= .returned (.bool false)∧ Below w.heap.size w w':=by
 have hx:(sub == sub')=false:=by simpa using hne
 clear hne
 clear t1 t2
 go_enter Try.func96,Try.ntmps96
 go_wp2_with fail
 all_goals
  go_ret
  exact⟨rfl,zbp (zbp (Below.refl _ _) _) _⟩
theorem zjw (kind:Int) (ix:Int) (sub:Int) (tg:Bool) (la:Bool) (cr:Bool) (sz:Bool) (size:Nat) (code:Nat) (sq:Int) (bl:Int) (em:Int) (sum:Nat) (tg':Bool) (la':Bool) (cr':Bool) (sz':Bool) (size':Nat) (code':Nat) (sq':Int) (bl':Int) (em':Int) (sum':Nat) (s:ByteArray) (s':ByteArray) (A1 A2:Option Addr) (n1 c1 n2 c2:Nat) (w:World) (hne: ¬ tg=tg')
 (t1:(convert 32 9 (.slice A1 n1 c1)).run Try.prog ((w.alloc (.cells #[.int .i64 kind,.int .i64 ix,.int .i64 sub,.bool tg,.bool la,.bool cr,.bool sz,.int .u32 (size:Nat),.int .u32 (code:Nat),.slice A1 n1 c1,.int .i64 sq,.int .i64 bl,.int .i64 em,.int .u16 (sum:Nat)] 72)).alloc (.cells #[.int .i64 kind,.int .i64 ix,.int .i64 sub,.bool tg',.bool la',.bool cr',.bool sz',.int .u32 (size':Nat),.int .u32 (code':Nat),.slice A2 n2 c2,.int .i64 sq',.int .i64 bl',.int .i64 em',.int .u16 (sum':Nat)] 72))= .ok (.string s) ((w.alloc (.cells #[.int .i64 kind,.int .i64 ix,.int .i64 sub,.bool tg,.bool la,.bool cr,.bool sz,.int .u32 (size:Nat),.int .u32 (code:Nat),.slice A1 n1 c1,.int .i64 sq,.int .i64 bl,.int .i64 em,.int .u16 (sum:Nat)] 72)).alloc (.cells #[.int .i64 kind,.int .i64 ix,.int .i64 sub,.bool tg',.bool la',.bool cr',.bool sz',.int .u32 (size':Nat),.int .u32 (code':Nat),.slice A2 n2 c2,.int .i64 sq',.int .i64 bl',.int .i64 em',.int .u16 (sum':Nat)] 72)))
 (t2:(convert 32 9 (.slice A2 n2 c2)).run Try.prog ((w.alloc (.cells #[.int .i64 kind,.int .i64 ix,.int .i64 sub,.bool tg,.bool la,.bool cr,.bool sz,.int .u32 (size:Nat),.int .u32 (code:Nat),.slice A1 n1 c1,.int .i64 sq,.int .i64 bl,.int .i64 em,.int .u16 (sum:Nat)] 72)).alloc (.cells #[.int .i64 kind,.int .i64 ix,.int .i64 sub,.bool tg',.bool la',.bool cr',.bool sz',.int .u32 (size':Nat),.int .u32 (code':Nat),.slice A2 n2 c2,.int .i64 sq',.int .i64 bl',.int .i64 em',.int .u16 (sum':Nat)] 72))= .ok (.string s') ((w.alloc (.cells #[.int .i64 kind,.int .i64 ix,.int .i64 sub,.bool tg,.bool la,.bool cr,.bool sz,.int .u32 (size:Nat),.int .u32 (code:Nat),.slice A1 n1 c1,.int .i64 sq,.int .i64 bl,.int .i64 em,.int .u16 (sum:Nat)] 72)).alloc (.cells #[.int .i64 kind,.int .i64 ix,.int .i64 sub,.bool tg',.bool la',.bool cr',.bool sz',.int .u32 (size':Nat),.int .u32 (code':Nat),.slice A2 n2 c2,.int .i64 sq',.int .i64 bl',.int .i64 em',.int .u16 (sum':Nat)] 72))) :
 Calls Try.prog 96 #[.agg #[.int .i64 kind,.int .i64 ix,.int .i64 sub,.bool tg,.bool la,.bool cr,.bool sz,.int .u32 (size:Nat),.int .u32 (code:Nat),.slice A1 n1 c1,.int .i64 sq,.int .i64 bl,.int .i64 em,.int .u16 (sum:Nat)],.agg #[.int .i64 kind,.int .i64 ix,.int .i64 sub,.bool tg',.bool la',.bool cr',.bool sz',.int .u32 (size':Nat),.int .u32 (code':Nat),.slice A2 n2 c2,.int .i64 sq',.int .i64 bl',.int .i64 em',.int .u16 (sum':Nat)]] w fun e w'=>e= .returned (.bool false)∧ Below w.heap.size w w':=by
 have hx:(tg == tg')=false:=by simpa using hne
 clear hne
 clear t1 t2
 go_enter Try.func96,Try.ntmps96
 go_wp2_with fail
 all_goals
  go_ret
  exact⟨rfl,zbp (zbp (Below.refl _ _) _) _⟩
theorem zjx (kind:Int) (ix:Int) (sub:Int) (tg:Bool) (la:Bool) (cr:Bool) (sz:Bool) (size:Nat) (code:Nat) (sq:Int) (bl:Int) (em:Int) (sum:Nat) (la':Bool) (cr':Bool) (sz':Bool) (size':Nat) (code':Nat) (sq':Int) (bl':Int) (em':Int) (sum':Nat) (s:ByteArray) (s':ByteArray) (A1 A2:Option Addr) (n1 c1 n2 c2:Nat) (w:World) (hne: ¬ la=la')
 (t1:(convert 32 9 (.slice A1 n1 c1)).run Try.prog ((w.alloc (.cells #[.int .i64 kind,.int .i64 ix,.int .i64 sub,.bool tg,.bool la,.bool cr,.bool sz,.int .u32 (size:Nat),.int .u32 (code:Nat),.slice A1 n1 c1,.int .i64 sq,.int .i64 bl,.int .i64 em,.int .u16 (sum:Nat)] 72)).alloc (.cells #[.int .i64 kind,.int .i64 ix,.int .i64 sub,.bool tg,.bool la',.bool cr',.bool sz',.int .u32 (size':Nat),.int .u32 (code':Nat),.slice A2 n2 c2,.int .i64 sq',.int .i64 bl',.int .i64 em',.int .u16 (sum':Nat)] 72))= .ok (.string s) ((w.alloc (.cells #[.int .i64 kind,.int .i64 ix,.int .i64 sub,.bool tg,.bool la,.bool cr,.bool sz,.int .u32 (size:Nat),.int .u32 (code:Nat),.slice A1 n1 c1,.int .i64 sq,.int .i64 bl,.int .i64 em,.int .u16 (sum:Nat)] 72)).alloc (.cells #[.int .i64 kind,.int .i64 ix,.int .i64 sub,.bool tg,.bool la',.bool cr',.bool sz',.int .u32 (size':Nat),.int .u32 (code':Nat),.slice A2 n2 c2,.int .i64 sq',.int .i64 bl',.int .i64 em',.int .u16 (sum':Nat)] 72)))
 (t2:(convert 32 9 (.slice A2 n2 c2)).run Try.prog ((w.alloc (.cells #[.int .i64 kind,.int .i64 ix,.int .i64 sub,.bool tg,.bool la,.bool cr,.bool sz,.int .u32 (size:Nat),.int .u32 (code:Nat),.slice A1 n1 c1,.int .i64 sq,.int .i64 bl,.int .i64 em,.int .u16 (sum:Nat)] 72)).alloc (.cells #[.int .i64 kind,.int .i64 ix,.int .i64 sub,.bool tg,.bool la',.bool cr',.bool sz',.int .u32 (size':Nat),.int .u32 (code':Nat),.slice A2 n2 c2,.int .i64 sq',.int .i64 bl',.int .i64 em',.int .u16 (sum':Nat)] 72))= .ok (.string s') ((w.alloc (.cells #[.int .i64 kind,.int .i64 ix,.int .i64 sub,.bool tg,.bool la,.bool cr,.bool sz,.int .u32 (size:Nat),.int .u32 (code:Nat),.slice A1 n1 c1,.int .i64 sq,.int .i64 bl,.int .i64 em,.int .u16 (sum:Nat)] 72)).alloc (.cells #[.int .i64 kind,.int .i64 ix,.int .i64 sub,.bool tg,.bool la',.bool cr',.bool sz',.int .u32 (size':Nat),.int .u32 (code':Nat),.slice A2 n2 c2,.int .i64 sq',.int .i64 bl',.int .i64 em',.int .u16 (sum':Nat)] 72))) :
 Calls Try.prog 96 #[.agg #[.int .i64 kind,.int .i64 ix,.int .i64 sub,.bool tg,.bool la,.bool cr,.bool sz,.int .u32 (size:Nat),.int .u32 (code:Nat),.slice A1 n1 c1,.int .i64 sq,.int .i64 bl,.int .i64 em,.int .u16 (sum:Nat)],.agg #[.int .i64 kind,.int .i64 ix,.int .i64 sub,.bool tg,.bool la',.bool cr',.bool sz',.int .u32 (size':Nat),.int .u32 (code':Nat),.slice A2 n2 c2,.int .i64 sq',.int .i64 bl',.int .i64 em',.int .u16 (sum':Nat)]] w fun e w'=>e= .returned (.bool false)∧ Below w.heap.size w w':=by
 have hx:(la == la')=false:=by simpa using hne
 clear hne
 clear t1 t2
 go_enter Try.func96,Try.ntmps96
 go_wp2_with fail
 all_goals
  go_ret
  exact⟨rfl,zbp (zbp (Below.refl _ _) _) _⟩
theorem zjy (kind:Int) (ix:Int) (sub:Int) (tg:Bool) (la:Bool) (cr:Bool) (sz:Bool) (size:Nat) (code:Nat) (sq:Int) (bl:Int) (em:Int) (sum:Nat) (cr':Bool) (sz':Bool) (size':Nat) (code':Nat) (sq':Int) (bl':Int) (em':Int) (sum':Nat) (s:ByteArray) (s':ByteArray) (A1 A2:Option Addr) (n1 c1 n2 c2:Nat) (w:World) (hne: ¬ cr=cr')
 (t1:(convert 32 9 (.slice A1 n1 c1)).run Try.prog ((w.alloc (.cells #[.int .i64 kind,.int .i64 ix,.int .i64 sub,.bool tg,.bool la,.bool cr,.bool sz,.int .u32 (size:Nat),.int .u32 (code:Nat),.slice A1 n1 c1,.int .i64 sq,.int .i64 bl,.int .i64 em,.int .u16 (sum:Nat)] 72)).alloc (.cells #[.int .i64 kind,.int .i64 ix,.int .i64 sub,.bool tg,.bool la,.bool cr',.bool sz',.int .u32 (size':Nat),.int .u32 (code':Nat),.slice A2 n2 c2,.int .i64 sq',.int .i64 bl',.int .i64 em',.int .u16 (sum':Nat)] 72))= .ok (.string s) ((w.alloc (.cells #[.int .i64 kind,.int .i64 ix,.int .i64 sub,.bool tg,.bool la,.bool cr,.bool sz,.int .u32 (size:Nat),.int .u32 (code:Nat),.slice A1 n1 c1,.int .i64 sq,.int .i64 bl,.int .i64 em,.int .u16 (sum:Nat)] 72)).alloc (.cells #[.int .i64 kind,.int .i64 ix,.int .i64 sub,.bool tg,.bool la,.bool cr',.bool sz',.int .u32 (size':Nat),.int .u32 (code':Nat),.slice A2 n2 c2,.int .i64 sq',.int .i64 bl',.int .i64 em',.int .u16 (sum':Nat)] 72)))
 (t2:(convert 32 9 (.slice A2 n2 c2)).run Try.prog ((w.alloc (.cells #[.int .i64 kind,.int .i64 ix,.int .i64 sub,.bool tg,.bool la,.bool cr,.bool sz,.int .u32 (size:Nat),.int .u32 (code:Nat),.slice A1 n1 c1,.int .i64 sq,.int .i64 bl,.int .i64 em,.int .u16 (sum:Nat)] 72)).alloc (.cells #[.int .i64 kind,.int .i64 ix,.int .i64 sub,.bool tg,.bool la,.bool cr',.bool sz',.int .u32 (size':Nat),.int .u32 (code':Nat),.slice A2 n2 c2,.int .i64 sq',.int .i64 bl',.int .i64 em',.int .u16 (sum':Nat)] 72))= .ok (.string s') ((w.alloc (.cells #[.int .i64 kind,.int .i64 ix,.int .i64 sub,.bool tg,.bool la,.bool cr,.bool sz,.int .u32 (size:Nat),.int .u32 (code:Nat),.slice A1 n1 c1,.int .i64 sq,.int .i64 bl,.int .i64 em,.int .u16 (sum:Nat)] 72)).alloc (.cells #[.int .i64 kind,.int .i64 ix,.int .i64 sub,.bool tg,.bool la,.bool cr',.bool sz',.int .u32 (size':Nat),.int .u32 (code':Nat),.slice A2 n2 c2,.int .i64 sq',.int .i64 bl',.int .i64 em',.int .u16 (sum':Nat)] 72))) :
 Calls Try.prog 96 #[.agg #[.int .i64 kind,.int .i64 ix,.int .i64 sub,.bool tg,.bool la,.bool cr,.bool sz,.int .u32 (size:Nat),.int .u32 (code:Nat),.slice A1 n1 c1,.int .i64 sq,.int .i64 bl,.int .i64 em,.int .u16 (sum:Nat)],.agg #[.int .i64 kind,.int .i64 ix,.int .i64 sub,.bool tg,.bool la,.bool cr',.bool sz',.int .u32 (size':Nat),.int .u32 (code':Nat),.slice A2 n2 c2,.int .i64 sq',.int .i64 bl',.int .i64 em',.int .u16 (sum':Nat)]] w fun e w'=>e= .returned (.bool false)∧ Below w.heap.size w w':=by
 have hx:(cr == cr')=false:=by simpa using hne
 clear hne
 clear t1 t2
 go_enter Try.func96,Try.ntmps96
 go_wp2_with fail
 all_goals
  go_ret
  exact⟨rfl,zbp (zbp (Below.refl _ _) _) _⟩
theorem zjz (kind:Int) (ix:Int) (sub:Int) (tg:Bool) (la:Bool) (cr:Bool) (sz:Bool) (size:Nat) (code:Nat) (sq:Int) (bl:Int) (em:Int) (sum:Nat) (sz':Bool) (size':Nat) (code':Nat) (sq':Int) (bl':Int) (em':Int) (sum':Nat) (s:ByteArray) (s':ByteArray) (A1 A2:Option Addr) (n1 c1 n2 c2:Nat) (w:World) (hne: ¬ sz=sz')
 (t1:(convert 32 9 (.slice A1 n1 c1)).run Try.prog ((w.alloc (.cells #[.int .i64 kind,.int .i64 ix,.int .i64 sub,.bool tg,.bool la,.bool cr,.bool sz,.int .u32 (size:Nat),.int .u32 (code:Nat),.slice A1 n1 c1,.int .i64 sq,.int .i64 bl,.int .i64 em,.int .u16 (sum:Nat)] 72)).alloc (.cells #[.int .i64 kind,.int .i64 ix,.int .i64 sub,.bool tg,.bool la,.bool cr,.bool sz',.int .u32 (size':Nat),.int .u32 (code':Nat),.slice A2 n2 c2,.int .i64 sq',.int .i64 bl',.int .i64 em',.int .u16 (sum':Nat)] 72))= .ok (.string s) ((w.alloc (.cells #[.int .i64 kind,.int .i64 ix,.int .i64 sub,.bool tg,.bool la,.bool cr,.bool sz,.int .u32 (size:Nat),.int .u32 (code:Nat),.slice A1 n1 c1,.int .i64 sq,.int .i64 bl,.int .i64 em,.int .u16 (sum:Nat)] 72)).alloc (.cells #[.int .i64 kind,.int .i64 ix,.int .i64 sub,.bool tg,.bool la,.bool cr,.bool sz',.int .u32 (size':Nat),.int .u32 (code':Nat),.slice A2 n2 c2,.int .i64 sq',.int .i64 bl',.int .i64 em',.int .u16 (sum':Nat)] 72)))
 (t2:(convert 32 9 (.slice A2 n2 c2)).run Try.prog ((w.alloc (.cells #[.int .i64 kind,.int .i64 ix,.int .i64 sub,.bool tg,.bool la,.bool cr,.bool sz,.int .u32 (size:Nat),.int .u32 (code:Nat),.slice A1 n1 c1,.int .i64 sq,.int .i64 bl,.int .i64 em,.int .u16 (sum:Nat)] 72)).alloc (.cells #[.int .i64 kind,.int .i64 ix,.int .i64 sub,.bool tg,.bool la,.bool cr,.bool sz',.int .u32 (size':Nat),.int .u32 (code':Nat),.slice A2 n2 c2,.int .i64 sq',.int .i64 bl',.int .i64 em',.int .u16 (sum':Nat)] 72))= .ok (.string s') ((w.alloc (.cells #[.int .i64 kind,.int .i64 ix,.int .i64 sub,.bool tg,.bool la,.bool cr,.bool sz,.int .u32 (size:Nat),.int .u32 (code:Nat),.slice A1 n1 c1,.int .i64 sq,.int .i64 bl,.int .i64 em,.int .u16 (sum:Nat)] 72)).alloc (.cells #[.int .i64 kind,.int .i64 ix,.int .i64 sub,.bool tg,.bool la,.bool cr,.bool sz',.int .u32 (size':Nat),.int .u32 (code':Nat),.slice A2 n2 c2,.int .i64 sq',.int .i64 bl',.int .i64 em',.int .u16 (sum':Nat)] 72))) :
 Calls Try.prog 96 #[.agg #[.int .i64 kind,.int .i64 ix,.int .i64 sub,.bool tg,.bool la,.bool cr,.bool sz,.int .u32 (size:Nat),.int .u32 (code:Nat),.slice A1 n1 c1,.int .i64 sq,.int .i64 bl,.int .i64 em,.int .u16 (sum:Nat)],.agg #[.int .i64 kind,.int .i64 ix,.int .i64 sub,.bool tg,.bool la,.bool cr,.bool sz',.int .u32 (size':Nat),.int .u32 (code':Nat),.slice A2 n2 c2,.int .i64 sq',.int .i64 bl',.int .i64 em',.int .u16 (sum':Nat)]] w fun e w'=>e= .returned (.bool false)∧ Below w.heap.size w w':=by
 have hx:(sz == sz')=false:=by simpa using hne
 clear hne
 clear t1 t2
 go_enter Try.func96,Try.ntmps96
 go_wp2_with fail
 all_goals
  go_ret
  exact⟨rfl,zbp (zbp (Below.refl _ _) _) _⟩
theorem zj0 (kind:Int) (ix:Int) (sub:Int) (tg:Bool) (la:Bool) (cr:Bool) (sz:Bool) (size:Nat) (code:Nat) (sq:Int) (bl:Int) (em:Int) (sum:Nat) (size':Nat) (code':Nat) (sq':Int) (bl':Int) (em':Int) (sum':Nat) (s:ByteArray) (s':ByteArray) (A1 A2:Option Addr) (n1 c1 n2 c2:Nat) (w:World) (hne: ¬ size=size')
 (t1:(convert 32 9 (.slice A1 n1 c1)).run Try.prog ((w.alloc (.cells #[.int .i64 kind,.int .i64 ix,.int .i64 sub,.bool tg,.bool la,.bool cr,.bool sz,.int .u32 (size:Nat),.int .u32 (code:Nat),.slice A1 n1 c1,.int .i64 sq,.int .i64 bl,.int .i64 em,.int .u16 (sum:Nat)] 72)).alloc (.cells #[.int .i64 kind,.int .i64 ix,.int .i64 sub,.bool tg,.bool la,.bool cr,.bool sz,.int .u32 (size':Nat),.int .u32 (code':Nat),.slice A2 n2 c2,.int .i64 sq',.int .i64 bl',.int .i64 em',.int .u16 (sum':Nat)] 72))= .ok (.string s) ((w.alloc (.cells #[.int .i64 kind,.int .i64 ix,.int .i64 sub,.bool tg,.bool la,.bool cr,.bool sz,.int .u32 (size:Nat),.int .u32 (code:Nat),.slice A1 n1 c1,.int .i64 sq,.int .i64 bl,.int .i64 em,.int .u16 (sum:Nat)] 72)).alloc (.cells #[.int .i64 kind,.int .i64 ix,.int .i64 sub,.bool tg,.bool la,.bool cr,.bool sz,.int .u32 (size':Nat),.int .u32 (code':Nat),.slice A2 n2 c2,.int .i64 sq',.int .i64 bl',.int .i64 em',.int .u16 (sum':Nat)] 72)))
 (t2:(convert 32 9 (.slice A2 n2 c2)).run Try.prog ((w.alloc (.cells #[.int .i64 kind,.int .i64 ix,.int .i64 sub,.bool tg,.bool la,.bool cr,.bool sz,.int .u32 (size:Nat),.int .u32 (code:Nat),.slice A1 n1 c1,.int .i64 sq,.int .i64 bl,.int .i64 em,.int .u16 (sum:Nat)] 72)).alloc (.cells #[.int .i64 kind,.int .i64 ix,.int .i64 sub,.bool tg,.bool la,.bool cr,.bool sz,.int .u32 (size':Nat),.int .u32 (code':Nat),.slice A2 n2 c2,.int .i64 sq',.int .i64 bl',.int .i64 em',.int .u16 (sum':Nat)] 72))= .ok (.string s') ((w.alloc (.cells #[.int .i64 kind,.int .i64 ix,.int .i64 sub,.bool tg,.bool la,.bool cr,.bool sz,.int .u32 (size:Nat),.int .u32 (code:Nat),.slice A1 n1 c1,.int .i64 sq,.int .i64 bl,.int .i64 em,.int .u16 (sum:Nat)] 72)).alloc (.cells #[.int .i64 kind,.int .i64 ix,.int .i64 sub,.bool tg,.bool la,.bool cr,.bool sz,.int .u32 (size':Nat),.int .u32 (code':Nat),.slice A2 n2 c2,.int .i64 sq',.int .i64 bl',.int .i64 em',.int .u16 (sum':Nat)] 72))) :
 Calls Try.prog 96 #[.agg #[.int .i64 kind,.int .i64 ix,.int .i64 sub,.bool tg,.bool la,.bool cr,.bool sz,.int .u32 (size:Nat),.int .u32 (code:Nat),.slice A1 n1 c1,.int .i64 sq,.int .i64 bl,.int .i64 em,.int .u16 (sum:Nat)],.agg #[.int .i64 kind,.int .i64 ix,.int .i64 sub,.bool tg,.bool la,.bool cr,.bool sz,.int .u32 (size':Nat),.int .u32 (code':Nat),.slice A2 n2 c2,.int .i64 sq',.int .i64 bl',.int .i64 em',.int .u16 (sum':Nat)]] w fun e w'=>e= .returned (.bool false)∧ Below w.heap.size w w':=by
 have hx:(((size:Nat):Int) == ((size':Nat):Int))=false:=by simp;omega
 clear hne
 clear t1 t2
 go_enter Try.func96,Try.ntmps96
 go_wp2_with fail
 all_goals
  go_ret
  exact⟨rfl,zbp (zbp (Below.refl _ _) _) _⟩
end
end Go.Proofs.Ythdbckbpldlkeaa
