/- None -/
import Derived.Test.YthdbckbpldlkeaaQ24
namespace Go.Proofs.Ythdbckbpldlkeaa
set_option linter.unusedVariables false
set_option linter.unusedSimpArgs false
set_option linter.unnecessarySimpa false
section
open Go.RowKit
set_option maxRecDepth 100000
set_option maxHeartbeats 8000000
theorem zj1 (kind:Int) (ix:Int) (sub:Int) (tg:Bool) (la:Bool) (cr:Bool) (sz:Bool) (size:Nat) (code:Nat) (sq:Int) (bl:Int) (em:Int) (sum:Nat) (code':Nat) (sq':Int) (bl':Int) (em':Int) (sum':Nat) (s:ByteArray) (s':ByteArray) (A1 A2:Option Addr) (n1 c1 n2 c2:Nat) (w:World) (hne: ¬ code=code')
 (t1:(convert 32 9 (.slice A1 n1 c1)).run Try.prog ((w.alloc (.cells #[.int .i64 kind,.int .i64 ix,.int .i64 sub,.bool tg,.bool la,.bool cr,.bool sz,.int .u32 (size:Nat),.int .u32 (code:Nat),.slice A1 n1 c1,.int .i64 sq,.int .i64 bl,.int .i64 em,.int .u16 (sum:Nat)] 72)).alloc (.cells #[.int .i64 kind,.int .i64 ix,.int .i64 sub,.bool tg,.bool la,.bool cr,.bool sz,.int .u32 (size:Nat),.int .u32 (code':Nat),.slice A2 n2 c2,.int .i64 sq',.int .i64 bl',.int .i64 em',.int .u16 (sum':Nat)] 72))= .ok (.string s) ((w.alloc (.cells #[.int .i64 kind,.int .i64 ix,.int .i64 sub,.bool tg,.bool la,.bool cr,.bool sz,.int .u32 (size:Nat),.int .u32 (code:Nat),.slice A1 n1 c1,.int .i64 sq,.int .i64 bl,.int .i64 em,.int .u16 (sum:Nat)] 72)).alloc (.cells #[.int .i64 kind,.int .i64 ix,.int .i64 sub,.bool tg,.bool la,.bool cr,.bool sz,.int .u32 (size:Nat),.int .u32 (code':Nat),.slice A2 n2 c2,.int .i64 sq',.int .i64 bl',.int .i64 em',.int .u16 (sum':Nat)] 72)))
 (t2:(convert 32 9 (.slice A2 n2 c2)).run Try.prog ((w.alloc (.cells #[.int .i64 kind,.int .i64 ix,.int .i64 sub,.bool tg,.bool la,.bool cr,.bool sz,.int .u32 (size:Nat),.int .u32 (code:Nat),.slice A1 n1 c1,.int .i64 sq,.int .i64 bl,.int .i64 em,.int .u16 (sum:Nat)] 72)).alloc (.cells #[.int .i64 kind,.int .i64 ix,.int .i64 sub,.bool tg,.bool la,.bool cr,.bool sz,.int .u32 (size:Nat),.int .u32 (code':Nat),.slice A2 n2 c2,.int .i64 sq',.int .i64 bl',.int .i64 em',.int .u16 (sum':Nat)] 72))= .ok (.string s') ((w.alloc (.cells #[.int .i64 kind,.int .i64 ix,.int .i64 sub,.bool tg,.bool la,.bool cr,.bool sz,.int .u32 (size:Nat),.int .u32 (code:Nat),.slice A1 n1 c1,.int .i64 sq,.int .i64 bl,.int .i64 em,.int .u16 (sum:Nat)] 72)).alloc (.cells #[.int .i64 kind,.int .i64 ix,.int .i64 sub,.bool tg,.bool la,.bool cr,.bool sz,.int .u32 (size:Nat),.int .u32 (code':Nat),.slice A2 n2 c2,.int .i64 sq',.int .i64 bl',.int .i64 em',.int .u16 (sum':Nat)] 72))) :
 Calls Try.prog 96 #[.agg #[.int .i64 kind,.int .i64 ix,.int .i64 sub,.bool tg,.bool la,.bool cr,.bool sz,.int .u32 (size:Nat),.int .u32 (code:Nat),.slice A1 n1 c1,.int .i64 sq,.int .i64 bl,.int .i64 em,.int .u16 (sum:Nat)],.agg #[.int .i64 kind,.int .i64 ix,.int .i64 sub,.bool tg,.bool la,.bool cr,.bool sz,.int .u32 (size:Nat),.int .u32 (code':Nat),.slice A2 n2 c2,.int .i64 sq',.int .i64 bl',.int .i64 em',.int .u16 (sum':Nat)]] w fun e w'=>e= .returned (.bool false)∧ Below w.heap.size w w':=by
 have hx:(((code:Nat):Int) == ((code':Nat):Int))=false:=by simp;omega
 clear hne
 clear t1 t2
 go_enter Try.func96,Try.ntmps96
 go_wp2_with fail
 all_goals
  go_ret
  exact⟨rfl,zbp (zbp (Below.refl _ _) _) _⟩
theorem zj2 (kind:Int) (ix:Int) (sub:Int) (tg:Bool) (la:Bool) (cr:Bool) (sz:Bool) (size:Nat) (code:Nat) (sq:Int) (bl:Int) (em:Int) (sum:Nat) (sq':Int) (bl':Int) (em':Int) (sum':Nat) (s:ByteArray) (s':ByteArray) (A1 A2:Option Addr) (n1 c1 n2 c2:Nat) (w:World) (hne: ¬ s.toList=s'.toList)
 (t1:(convert 32 9 (.slice A1 n1 c1)).run Try.prog ((w.alloc (.cells #[.int .i64 kind,.int .i64 ix,.int .i64 sub,.bool tg,.bool la,.bool cr,.bool sz,.int .u32 (size:Nat),.int .u32 (code:Nat),.slice A1 n1 c1,.int .i64 sq,.int .i64 bl,.int .i64 em,.int .u16 (sum:Nat)] 72)).alloc (.cells #[.int .i64 kind,.int .i64 ix,.int .i64 sub,.bool tg,.bool la,.bool cr,.bool sz,.int .u32 (size:Nat),.int .u32 (code:Nat),.slice A2 n2 c2,.int .i64 sq',.int .i64 bl',.int .i64 em',.int .u16 (sum':Nat)] 72))= .ok (.string s) ((w.alloc (.cells #[.int .i64 kind,.int .i64 ix,.int .i64 sub,.bool tg,.bool la,.bool cr,.bool sz,.int .u32 (size:Nat),.int .u32 (code:Nat),.slice A1 n1 c1,.int .i64 sq,.int .i64 bl,.int .i64 em,.int .u16 (sum:Nat)] 72)).alloc (.cells #[.int .i64 kind,.int .i64 ix,.int .i64 sub,.bool tg,.bool la,.bool cr,.bool sz,.int .u32 (size:Nat),.int .u32 (code:Nat),.slice A2 n2 c2,.int .i64 sq',.int .i64 bl',.int .i64 em',.int .u16 (sum':Nat)] 72)))
 (t2:(convert 32 9 (.slice A2 n2 c2)).run Try.prog ((w.alloc (.cells #[.int .i64 kind,.int .i64 ix,.int .i64 sub,.bool tg,.bool la,.bool cr,.bool sz,.int .u32 (size:Nat),.int .u32 (code:Nat),.slice A1 n1 c1,.int .i64 sq,.int .i64 bl,.int .i64 em,.int .u16 (sum:Nat)] 72)).alloc (.cells #[.int .i64 kind,.int .i64 ix,.int .i64 sub,.bool tg,.bool la,.bool cr,.bool sz,.int .u32 (size:Nat),.int .u32 (code:Nat),.slice A2 n2 c2,.int .i64 sq',.int .i64 bl',.int .i64 em',.int .u16 (sum':Nat)] 72))= .ok (.string s') ((w.alloc (.cells #[.int .i64 kind,.int .i64 ix,.int .i64 sub,.bool tg,.bool la,.bool cr,.bool sz,.int .u32 (size:Nat),.int .u32 (code:Nat),.slice A1 n1 c1,.int .i64 sq,.int .i64 bl,.int .i64 em,.int .u16 (sum:Nat)] 72)).alloc (.cells #[.int .i64 kind,.int .i64 ix,.int .i64 sub,.bool tg,.bool la,.bool cr,.bool sz,.int .u32 (size:Nat),.int .u32 (code:Nat),.slice A2 n2 c2,.int .i64 sq',.int .i64 bl',.int .i64 em',.int .u16 (sum':Nat)] 72))) :
 Calls Try.prog 96 #[.agg #[.int .i64 kind,.int .i64 ix,.int .i64 sub,.bool tg,.bool la,.bool cr,.bool sz,.int .u32 (size:Nat),.int .u32 (code:Nat),.slice A1 n1 c1,.int .i64 sq,.int .i64 bl,.int .i64 em,.int .u16 (sum:Nat)],.agg #[.int .i64 kind,.int .i64 ix,.int .i64 sub,.bool tg,.bool la,.bool cr,.bool sz,.int .u32 (size:Nat),.int .u32 (code:Nat),.slice A2 n2 c2,.int .i64 sq',.int .i64 bl',.int .i64 em',.int .u16 (sum':Nat)]] w fun e w'=>e= .returned (.bool false)∧ Below w.heap.size w w':=by
 have hx:=hne
 clear hne
 go_enter Try.func96,Try.ntmps96
 go_wp2_with fail
 all_goals
  go_ret
  exact⟨rfl,zbp (zbp (Below.refl _ _) _) _⟩
theorem zj3 (kind:Int) (ix:Int) (sub:Int) (tg:Bool) (la:Bool) (cr:Bool) (sz:Bool) (size:Nat) (code:Nat) (sq:Int) (bl:Int) (em:Int) (sum:Nat) (sq':Int) (bl':Int) (em':Int) (sum':Nat) (s:ByteArray) (A1 A2:Option Addr) (n1 c1 n2 c2:Nat) (w:World) (hne: ¬ sq=sq')
 (t1:(convert 32 9 (.slice A1 n1 c1)).run Try.prog ((w.alloc (.cells #[.int .i64 kind,.int .i64 ix,.int .i64 sub,.bool tg,.bool la,.bool cr,.bool sz,.int .u32 (size:Nat),.int .u32 (code:Nat),.slice A1 n1 c1,.int .i64 sq,.int .i64 bl,.int .i64 em,.int .u16 (sum:Nat)] 72)).alloc (.cells #[.int .i64 kind,.int .i64 ix,.int .i64 sub,.bool tg,.bool la,.bool cr,.bool sz,.int .u32 (size:Nat),.int .u32 (code:Nat),.slice A2 n2 c2,.int .i64 sq',.int .i64 bl',.int .i64 em',.int .u16 (sum':Nat)] 72))= .ok (.string s) ((w.alloc (.cells #[.int .i64 kind,.int .i64 ix,.int .i64 sub,.bool tg,.bool la,.bool cr,.bool sz,.int .u32 (size:Nat),.int .u32 (code:Nat),.slice A1 n1 c1,.int .i64 sq,.int .i64 bl,.int .i64 em,.int .u16 (sum:Nat)] 72)).alloc (.cells #[.int .i64 kind,.int .i64 ix,.int .i64 sub,.bool tg,.bool la,.bool cr,.bool sz,.int .u32 (size:Nat),.int .u32 (code:Nat),.slice A2 n2 c2,.int .i64 sq',.int .i64 bl',.int .i64 em',.int .u16 (sum':Nat)] 72)))
 (t2:(convert 32 9 (.slice A2 n2 c2)).run Try.prog ((w.alloc (.cells #[.int .i64 kind,.int .i64 ix,.int .i64 sub,.bool tg,.bool la,.bool cr,.bool sz,.int .u32 (size:Nat),.int .u32 (code:Nat),.slice A1 n1 c1,.int .i64 sq,.int .i64 bl,.int .i64 em,.int .u16 (sum:Nat)] 72)).alloc (.cells #[.int .i64 kind,.int .i64 ix,.int .i64 sub,.bool tg,.bool la,.bool cr,.bool sz,.int .u32 (size:Nat),.int .u32 (code:Nat),.slice A2 n2 c2,.int .i64 sq',.int .i64 bl',.int .i64 em',.int .u16 (sum':Nat)] 72))= .ok (.string s) ((w.alloc (.cells #[.int .i64 kind,.int .i64 ix,.int .i64 sub,.bool tg,.bool la,.bool cr,.bool sz,.int .u32 (size:Nat),.int .u32 (code:Nat),.slice A1 n1 c1,.int .i64 sq,.int .i64 bl,.int .i64 em,.int .u16 (sum:Nat)] 72)).alloc (.cells #[.int .i64 kind,.int .i64 ix,.int .i64 sub,.bool tg,.bool la,.bool cr,.bool sz,.int .u32 (size:Nat),.int .u32 (code:Nat),.slice A2 n2 c2,.int .i64 sq',.int .i64 bl',.int .i64 em',.int .u16 (sum':Nat)] 72))) :
 Calls Try.prog 96 #[.agg #[.int .i64 kind,.int .i64 ix,.int .i64 sub,.bool tg,.bool la,.bool cr,.bool sz,.int .u32 (size:Nat),.int .u32 (code:Nat),.slice A1 n1 c1,.int .i64 sq,.int .i64 bl,.int .i64 em,.int .u16 (sum:Nat)],.agg #[.int .i64 kind,.int .i64 ix,.int .i64 sub,.bool tg,.bool la,.bool cr,.bool sz,.int .u32 (size:Nat),.int .u32 (code:Nat),.slice A2 n2 c2,.int .i64 sq',.int .i64 bl',.int .i64 em',.int .u16 (sum':Nat)]] w fun e w'=>e= .returned (.bool false)∧ Below w.heap.size w w':=by
 have hx:(sq == sq')=false:=by simpa using hne
 clear hne
 go_enter Try.func96,Try.ntmps96
 go_wp2_with fail
 all_goals
  go_ret
  exact⟨rfl,zbp (zbp (Below.refl _ _) _) _⟩
theorem zj4 (kind:Int) (ix:Int) (sub:Int) (tg:Bool) (la:Bool) (cr:Bool) (sz:Bool) (size:Nat) (code:Nat) (sq:Int) (bl:Int) (em:Int) (sum:Nat) (bl':Int) (em':Int) (sum':Nat) (s:ByteArray) (A1 A2:Option Addr) (n1 c1 n2 c2:Nat) (w:World) (hne: ¬ bl=bl')
 (t1:(convert 32 9 (.slice A1 n1 c1)).run Try.prog ((w.alloc (.cells #[.int .i64 kind,.int .i64 ix,.int .i64 sub,.bool tg,.bool la,.bool cr,.bool sz,.int .u32 (size:Nat),.int .u32 (code:Nat),.slice A1 n1 c1,.int .i64 sq,.int .i64 bl,.int .i64 em,.int .u16 (sum:Nat)] 72)).alloc (.cells #[.int .i64 kind,.int .i64 ix,.int .i64 sub,.bool tg,.bool la,.bool cr,.bool sz,.int .u32 (size:Nat),.int .u32 (code:Nat),.slice A2 n2 c2,.int .i64 sq,.int .i64 bl',.int .i64 em',.int .u16 (sum':Nat)] 72))= .ok (.string s) ((w.alloc (.cells #[.int .i64 kind,.int .i64 ix,.int .i64 sub,.bool tg,.bool la,.bool cr,.bool sz,.int .u32 (size:Nat),.int .u32 (code:Nat),.slice A1 n1 c1,.int .i64 sq,.int .i64 bl,.int .i64 em,.int .u16 (sum:Nat)] 72)).alloc (.cells #[.int .i64 kind,.int .i64 ix,.int .i64 sub,.bool tg,.bool la,.bool cr,.bool sz,.int .u32 (size:Nat),.int .u32 (code:Nat),.slice A2 n2 c2,.int .i64 sq,.int .i64 bl',.int .i64 em',.int .u16 (sum':Nat)] 72)))
 (t2:(convert 32 9 (.slice A2 n2 c2)).run Try.prog ((w.alloc (.cells #[.int .i64 kind,.int .i64 ix,.int .i64 sub,.bool tg,.bool la,.bool cr,.bool sz,.int .u32 (size:Nat),.int .u32 (code:Nat),.slice A1 n1 c1,.int .i64 sq,.int .i64 bl,.int .i64 em,.int .u16 (sum:Nat)] 72)).alloc (.cells #[.int .i64 kind,.int .i64 ix,.int .i64 sub,.bool tg,.bool la,.bool cr,.bool sz,.int .u32 (size:Nat),.int .u32 (code:Nat),.slice A2 n2 c2,.int .i64 sq,.int .i64 bl',.int .i64 em',.int .u16 (sum':Nat)] 72))= .ok (.string s) ((w.alloc (.cells #[.int .i64 kind,.int .i64 ix,.int .i64 sub,.bool tg,.bool la,.bool cr,.bool sz,.int .u32 (size:Nat),.int .u32 (code:Nat),.slice A1 n1 c1,.int .i64 sq,.int .i64 bl,.int .i64 em,.int .u16 (sum:Nat)] 72)).alloc (.cells #[.int .i64 kind,.int .i64 ix,.int .i64 sub,.bool tg,.bool la,.bool cr,.bool sz,.int .u32 (size:Nat),.int .u32 (code:Nat),.slice A2 n2 c2,.int .i64 sq,.int .i64 bl',.int .i64 em',.int .u16 (sum':Nat)] 72))) :
 Calls Try.prog 96 #[.agg #[.int .i64 kind,.int .i64 ix,.int .i64 sub,.bool tg,.bool la,.bool cr,.bool sz,.int .u32 (size:Nat),.int .u32 (code:Nat),.slice A1 n1 c1,.int .i64 sq,.int .i64 bl,.int .i64 em,.int .u16 (sum:Nat)],.agg #[.int .i64 kind,.int .i64 ix,.int .i64 sub,.bool tg,.bool la,.bool cr,.bool sz,.int .u32 (size:Nat),.int .u32 (code:Nat),.slice A2 n2 c2,.int .i64 sq,.int .i64 bl',.int .i64 em',.int .u16 (sum':Nat)]] w fun e w'=>e= .returned (.bool false)∧ Below w.heap.size w w':=by
 have hx:(bl == bl')=false:=by simpa using hne
 clear hne
 go_enter Try.func96,Try.ntmps96
 go_wp2_with fail
 all_goals
  go_ret
  exact⟨rfl,zbp (zbp (Below.refl _ _) _) _⟩
end
section
open Go.RowKit
set_option maxRecDepth 100000
set_option maxHeartbeats 8000000
theorem zj5 (kind:Int) (ix:Int) (sub:Int) (tg:Bool) (la:Bool) (cr:Bool) (sz:Bool) (size:Nat) (code:Nat) (sq:Int) (bl:Int) (em:Int) (sum:Nat) (em':Int) (sum':Nat) (s:ByteArray) (A1 A2:Option Addr) (n1 c1 n2 c2:Nat) (w:World) (hne: ¬ em=em')
 (t1:(convert 32 9 (.slice A1 n1 c1)).run Try.prog ((w.alloc (.cells #[.int .i64 kind,.int .i64 ix,.int .i64 sub,.bool tg,.bool la,.bool cr,.bool sz,.int .u32 (size:Nat),.int .u32 (code:Nat),.slice A1 n1 c1,.int .i64 sq,.int .i64 bl,.int .i64 em,.int .u16 (sum:Nat)] 72)).alloc (.cells #[.int .i64 kind,.int .i64 ix,.int .i64 sub,.bool tg,.bool la,.bool cr,.bool sz,.int .u32 (size:Nat),.int .u32 (code:Nat),.slice A2 n2 c2,.int .i64 sq,.int .i64 bl,.int .i64 em',.int .u16 (sum':Nat)] 72))= .ok (.string s) ((w.alloc (.cells #[.int .i64 kind,.int .i64 ix,.int .i64 sub,.bool tg,.bool la,.bool cr,.bool sz,.int .u32 (size:Nat),.int .u32 (code:Nat),.slice A1 n1 c1,.int .i64 sq,.int .i64 bl,.int .i64 em,.int .u16 (sum:Nat)] 72)).alloc (.cells #[.int .i64 kind,.int .i64 ix,.int .i64 sub,.bool tg,.bool la,.bool cr,.bool sz,.int .u32 (size:Nat),.int .u32 (code:Nat),.slice A2 n2 c2,.int .i64 sq,.int .i64 bl,.int .i64 em',.int .u16 (sum':Nat)] 72)))
 (t2:(convert 32 9 (.slice A2 n2 c2)).run Try.prog ((w.alloc (.cells #[.int .i64 kind,.int .i64 ix,.int .i64 sub,.bool tg,.bool la,.bool cr,.bool sz,.int .u32 (size:Nat),.int .u32 (code:Nat),.slice A1 n1 c1,.int .i64 sq,.int .i64 bl,.int .i64 em,.int .u16 (sum:Nat)] 72)).alloc (.cells #[.int .i64 kind,.int .i64 ix,.int .i64 sub,.bool tg,.bool la,.bool cr,.bool sz,.int .u32 (size:Nat),.int .u32 (code:Nat),.slice A2 n2 c2,.int .i64 sq,.int .i64 bl,.int .i64 em',.int .u16 (sum':Nat)] 72))= .ok (.string s) ((w.alloc (.cells #[.int .i64 kind,.int .i64 ix,.int .i64 sub,.bool tg,.bool la,.bool cr,.bool sz,.int .u32 (size:Nat),.int .u32 (code:Nat),.slice A1 n1 c1,.int .i64 sq,.int .i64 bl,.int .i64 em,.int .u16 (sum:Nat)] 72)).alloc (.cells #[.int .i64 kind,.int .i64 ix,.int .i64 sub,.bool tg,.bool la,.bool cr,.bool sz,.int .u32 (size:Nat),.int .u32 (code:Nat),.slice A2 n2 c2,.int .i64 sq,.int .i64 bl,.int .i64 em',.int .u16 (sum':Nat)] 72))) :
 Calls Try.prog 96 #[.agg #[.int .i64 kind,.int .i64 ix,.int .i64 sub,.bool tg,.bool la,.bool cr,.bool sz,.int .u32 (size:Nat),.int .u32 (code:Nat),.slice A1 n1 c1,.int .i64 sq,.int .i64 bl,.int .i64 em,.int .u16 (sum:Nat)],.agg #[.int .i64 kind,.int .i64 ix,.int .i64 sub,.bool tg,.bool la,.bool cr,.bool sz,.int .u32 (size:Nat),.int .u32 (code:Nat),.slice A2 n2 c2,.int .i64 sq,.int .i64 bl,.int .i64 em',.int .u16 (sum':Nat)]] w fun e w'=>e= .returned (.bool false)∧ Below w.heap.size w w':=by
 have hx:(em == em')=false:=by simpa using hne
 clear hne
 go_enter Try.func96,Try.ntmps96
 go_wp2_with fail
 all_goals
  go_ret
  exact⟨rfl,zbp (zbp (Below.refl _ _) _) _⟩
theorem zj6 (kind:Int) (ix:Int) (sub:Int) (tg:Bool) (la:Bool) (cr:Bool) (sz:Bool) (size:Nat) (code:Nat) (sq:Int) (bl:Int) (em:Int) (sum:Nat) (sum':Nat) (s:ByteArray) (A1 A2:Option Addr) (n1 c1 n2 c2:Nat) (w:World) (hne: ¬ sum=sum')
 (t1:(convert 32 9 (.slice A1 n1 c1)).run Try.prog ((w.alloc (.cells #[.int .i64 kind,.int .i64 ix,.int .i64 sub,.bool tg,.bool la,.bool cr,.bool sz,.int .u32 (size:Nat),.int .u32 (code:Nat),.slice A1 n1 c1,.int .i64 sq,.int .i64 bl,.int .i64 em,.int .u16 (sum:Nat)] 72)).alloc (.cells #[.int .i64 kind,.int .i64 ix,.int .i64 sub,.bool tg,.bool la,.bool cr,.bool sz,.int .u32 (size:Nat),.int .u32 (code:Nat),.slice A2 n2 c2,.int .i64 sq,.int .i64 bl,.int .i64 em,.int .u16 (sum':Nat)] 72))= .ok (.string s) ((w.alloc (.cells #[.int .i64 kind,.int .i64 ix,.int .i64 sub,.bool tg,.bool la,.bool cr,.bool sz,.int .u32 (size:Nat),.int .u32 (code:Nat),.slice A1 n1 c1,.int .i64 sq,.int .i64 bl,.int .i64 em,.int .u16 (sum:Nat)] 72)).alloc (.cells #[.int .i64 kind,.int .i64 ix,.int .i64 sub,.bool tg,.bool la,.bool cr,.bool sz,.int .u32 (size:Nat),.int .u32 (code:Nat),.slice A2 n2 c2,.int .i64 sq,.int .i64 bl,.int .i64 em,.int .u16 (sum':Nat)] 72)))
 (t2:(convert 32 9 (.slice A2 n2 c2)).run Try.prog ((w.alloc (.cells #[.int .i64 kind,.int .i64 ix,.int .i64 sub,.bool tg,.bool la,.bool cr,.bool sz,.int .u32 (size:Nat),.int .u32 (code:Nat),.slice A1 n1 c1,.int .i64 sq,.int .i64 bl,.int .i64 em,.int .u16 (sum:Nat)] 72)).alloc (.cells #[.int .i64 kind,.int .i64 ix,.int .i64 sub,.bool tg,.bool la,.bool cr,.bool sz,.int .u32 (size:Nat),.int .u32 (code:Nat),.slice A2 n2 c2,.int .i64 sq,.int .i64 bl,.int .i64 em,.int .u16 (sum':Nat)] 72))= .ok (.string s) ((w.alloc (.cells #[.int .i64 kind,.int .i64 ix,.int .i64 sub,.bool tg,.bool la,.bool cr,.bool sz,.int .u32 (size:Nat),.int .u32 (code:Nat),.slice A1 n1 c1,.int .i64 sq,.int .i64 bl,.int .i64 em,.int .u16 (sum:Nat)] 72)).alloc (.cells #[.int .i64 kind,.int .i64 ix,.int .i64 sub,.bool tg,.bool la,.bool cr,.bool sz,.int .u32 (size:Nat),.int .u32 (code:Nat),.slice A2 n2 c2,.int .i64 sq,.int .i64 bl,.int .i64 em,.int .u16 (sum':Nat)] 72))) :
 Calls Try.prog 96 #[.agg #[.int .i64 kind,.int .i64 ix,.int .i64 sub,.bool tg,.bool la,.bool cr,.bool sz,.int .u32 (size:Nat),.int .u32 (code:Nat),.slice A1 n1 c1,.int .i64 sq,.int .i64 bl,.int .i64 em,.int .u16 (sum:Nat)],.agg #[.int .i64 kind,.int .i64 ix,.int .i64 sub,.bool tg,.bool la,.bool cr,.bool sz,.int .u32 (size:Nat),.int .u32 (code:Nat),.slice A2 n2 c2,.int .i64 sq,.int .i64 bl,.int .i64 em,.int .u16 (sum':Nat)]] w fun e w'=>e= .returned (.bool false)∧ Below w.heap.size w w':=by
 have hx:(((sum:Nat):Int) == ((sum':Nat):Int))=false:=by simp;omega
 clear hne
 go_enter Try.func96,Try.ntmps96
 go_wp2_with fail
 all_goals
  go_ret
  exact⟨rfl,zbp (zbp (Below.refl _ _) _) _⟩
theorem zj7 (kind:Int) (ix:Int) (sub:Int) (tg:Bool) (la:Bool) (cr:Bool) (sz:Bool) (size:Nat) (code:Nat) (sq:Int) (bl:Int) (em:Int) (sum:Nat) (s:ByteArray) (A1 A2:Option Addr) (n1 c1 n2 c2:Nat) (w:World)
 (t1:(convert 32 9 (.slice A1 n1 c1)).run Try.prog ((w.alloc (.cells #[.int .i64 kind,.int .i64 ix,.int .i64 sub,.bool tg,.bool la,.bool cr,.bool sz,.int .u32 (size:Nat),.int .u32 (code:Nat),.slice A1 n1 c1,.int .i64 sq,.int .i64 bl,.int .i64 em,.int .u16 (sum:Nat)] 72)).alloc (.cells #[.int .i64 kind,.int .i64 ix,.int .i64 sub,.bool tg,.bool la,.bool cr,.bool sz,.int .u32 (size:Nat),.int .u32 (code:Nat),.slice A2 n2 c2,.int .i64 sq,.int .i64 bl,.int .i64 em,.int .u16 (sum:Nat)] 72))= .ok (.string s) ((w.alloc (.cells #[.int .i64 kind,.int .i64 ix,.int .i64 sub,.bool tg,.bool la,.bool cr,.bool sz,.int .u32 (size:Nat),.int .u32 (code:Nat),.slice A1 n1 c1,.int .i64 sq,.int .i64 bl,.int .i64 em,.int .u16 (sum:Nat)] 72)).alloc (.cells #[.int .i64 kind,.int .i64 ix,.int .i64 sub,.bool tg,.bool la,.bool cr,.bool sz,.int .u32 (size:Nat),.int .u32 (code:Nat),.slice A2 n2 c2,.int .i64 sq,.int .i64 bl,.int .i64 em,.int .u16 (sum:Nat)] 72)))
 (t2:(convert 32 9 (.slice A2 n2 c2)).run Try.prog ((w.alloc (.cells #[.int .i64 kind,.int .i64 ix,.int .i64 sub,.bool tg,.bool la,.bool cr,.bool sz,.int .u32 (size:Nat),.int .u32 (code:Nat),.slice A1 n1 c1,.int .i64 sq,.int .i64 bl,.int .i64 em,.int .u16 (sum:Nat)] 72)).alloc (.cells #[.int .i64 kind,.int .i64 ix,.int .i64 sub,.bool tg,.bool la,.bool cr,.bool sz,.int .u32 (size:Nat),.int .u32 (code:Nat),.slice A2 n2 c2,.int .i64 sq,.int .i64 bl,.int .i64 em,.int .u16 (sum:Nat)] 72))= .ok (.string s) ((w.alloc (.cells #[.int .i64 kind,.int .i64 ix,.int .i64 sub,.bool tg,.bool la,.bool cr,.bool sz,.int .u32 (size:Nat),.int .u32 (code:Nat),.slice A1 n1 c1,.int .i64 sq,.int .i64 bl,.int .i64 em,.int .u16 (sum:Nat)] 72)).alloc (.cells #[.int .i64 kind,.int .i64 ix,.int .i64 sub,.bool tg,.bool la,.bool cr,.bool sz,.int .u32 (size:Nat),.int .u32 (code:Nat),.slice A2 n2 c2,.int .i64 sq,.int .i64 bl,.int .i64 em,.int .u16 (sum:Nat)] 72))) :
 Calls Try.prog 96 #[.agg #[.int .i64 kind,.int .i64 ix,.int .i64 sub,.bool tg,.bool la,.bool cr,.bool sz,.int .u32 (size:Nat),.int .u32 (code:Nat),.slice A1 n1 c1,.int .i64 sq,.int .i64 bl,.int .i64 em,.int .u16 (sum:Nat)],.agg #[.int .i64 kind,.int .i64 ix,.int .i64 sub,.bool tg,.bool la,.bool cr,.bool sz,.int .u32 (size:Nat),.int .u32 (code:Nat),.slice A2 n2 c2,.int .i64 sq,.int .i64 bl,.int .i64 em,.int .u16 (sum:Nat)]] w fun e w'=>e= .returned (.bool true)∧ Below w.heap.size w w':=by
 go_enter Try.func96,Try.ntmps96
 go_wp2_with fail
 all_goals
  go_ret
  exact⟨rfl,zbp (zbp (Below.refl _ _) _) _⟩
end
section
open Go.RowKit
set_option maxRecDepth 100000
set_option maxHeartbeats 8000000
theorem zj8 (M N:Ms) (A1 A2:Option Addr) (n1 c1 n2 c2:Nat) (w:World) (hn1:n1=M.data.length) (hn2:n2=N.data.length) (h1:Sl w A1 (M.data.map bv)) (h2:Sl w A2 (N.data.map bv)) :
 Calls Try.prog 96 #[.agg (msV M A1 n1 c1),.agg (msV N A2 n2 c2)] w fun e w'=>e= .returned (.bool (sameB M N))∧ Below w.heap.size w w':=by
 have t1:=zca c1 hn1 ((h1.alloc (.cells (msV M A1 n1 c1) 72)).alloc (.cells (msV N A2 n2 c2) 72))
 have t2:=zca c2 hn2 ((h2.alloc (.cells (msV M A1 n1 c1) 72)).alloc (.cells (msV N A2 n2 c2) 72))
 clear hn1 hn2 h1 h2
 obtain⟨kind,ix,sub,tg,la,cr,sz,size,code,data,sq,bl,em,sum⟩:= M
 obtain⟨kind',ix',sub',tg',la',cr',sz',size',code',data',sq',bl',em',sum'⟩:= N
 simp only[msV] at *
 by_cases hne:kind=kind'
 case neg=>
  have HNE:sameB ⟨kind,ix,sub,tg,la,cr,sz,size,code,data,sq,bl,em,sum⟩ ⟨kind',ix',sub',tg',la',cr',sz',size',code',data',sq',bl',em',sum'⟩=false:=by
   unfold sameB
   rw[decide_eq_false_iff_not]
   intro h
   injection h with h1 h2 h3 h4 h5 h6 h7 h8 h9 h10 h11 h12 h13 h14
   exact hne (by assumption)
  rw[HNE]
  exact zjt kind ix sub tg la cr sz size code sq bl em sum kind' ix' sub' tg' la' cr' sz' size' code' sq' bl' em' sum' ⟨data.toArray⟩ ⟨data'.toArray⟩ A1 A2 n1 c1 n2 c2 w hne t1 t2
 subst hne
 by_cases hne:ix=ix'
 case neg=>
  have HNE:sameB ⟨kind,ix,sub,tg,la,cr,sz,size,code,data,sq,bl,em,sum⟩ ⟨kind,ix',sub',tg',la',cr',sz',size',code',data',sq',bl',em',sum'⟩=false:=by
   unfold sameB
   rw[decide_eq_false_iff_not]
   intro h
   injection h with h1 h2 h3 h4 h5 h6 h7 h8 h9 h10 h11 h12 h13 h14
   exact hne (by assumption)
  rw[HNE]
  exact zju kind ix sub tg la cr sz size code sq bl em sum ix' sub' tg' la' cr' sz' size' code' sq' bl' em' sum' ⟨data.toArray⟩ ⟨data'.toArray⟩ A1 A2 n1 c1 n2 c2 w hne t1 t2
 subst hne
 by_cases hne:sub=sub'
 case neg=>
  have HNE:sameB ⟨kind,ix,sub,tg,la,cr,sz,size,code,data,sq,bl,em,sum⟩ ⟨kind,ix,sub',tg',la',cr',sz',size',code',data',sq',bl',em',sum'⟩=false:=by
   unfold sameB
   rw[decide_eq_false_iff_not]
   intro h
   injection h with h1 h2 h3 h4 h5 h6 h7 h8 h9 h10 h11 h12 h13 h14
   exact hne (by assumption)
  rw[HNE]
  exact zjv kind ix sub tg la cr sz size code sq bl em sum sub' tg' la' cr' sz' size' code' sq' bl' em' sum' ⟨data.toArray⟩ ⟨data'.toArray⟩ A1 A2 n1 c1 n2 c2 w hne t1 t2
 subst hne
 by_cases hne:tg=tg'
 case neg=>
  have HNE:sameB ⟨kind,ix,sub,tg,la,cr,sz,size,code,data,sq,bl,em,sum⟩ ⟨kind,ix,sub,tg',la',cr',sz',size',code',data',sq',bl',em',sum'⟩=false:=by
   unfold sameB
   rw[decide_eq_false_iff_not]
   intro h
   injection h with h1 h2 h3 h4 h5 h6 h7 h8 h9 h10 h11 h12 h13 h14
   exact hne (by assumption)
  rw[HNE]
  exact zjw kind ix sub tg la cr sz size code sq bl em sum tg' la' cr' sz' size' code' sq' bl' em' sum' ⟨data.toArray⟩ ⟨data'.toArray⟩ A1 A2 n1 c1 n2 c2 w hne t1 t2
 subst hne
 by_cases hne:la=la'
 case neg=>
  have HNE:sameB ⟨kind,ix,sub,tg,la,cr,sz,size,code,data,sq,bl,em,sum⟩ ⟨kind,ix,sub,tg,la',cr',sz',size',code',data',sq',bl',em',sum'⟩=false:=by
   unfold sameB
   rw[decide_eq_false_iff_not]
   intro h
   injection h with h1 h2 h3 h4 h5 h6 h7 h8 h9 h10 h11 h12 h13 h14
   exact hne (by assumption)
  rw[HNE]
  exact zjx kind ix sub tg la cr sz size code sq bl em sum la' cr' sz' size' code' sq' bl' em' sum' ⟨data.toArray⟩ ⟨data'.toArray⟩ A1 A2 n1 c1 n2 c2 w hne t1 t2
 subst hne
 by_cases hne:cr=cr'
 case neg=>
  have HNE:sameB ⟨kind,ix,sub,tg,la,cr,sz,size,code,data,sq,bl,em,sum⟩ ⟨kind,ix,sub,tg,la,cr',sz',size',code',data',sq',bl',em',sum'⟩=false:=by
   unfold sameB
   rw[decide_eq_false_iff_not]
   intro h
   injection h with h1 h2 h3 h4 h5 h6 h7 h8 h9 h10 h11 h12 h13 h14
   exact hne (by assumption)
  rw[HNE]
  exact zjy kind ix sub tg la cr sz size code sq bl em sum cr' sz' size' code' sq' bl' em' sum' ⟨data.toArray⟩ ⟨data'.toArray⟩ A1 A2 n1 c1 n2 c2 w hne t1 t2
 subst hne
 by_cases hne:sz=sz'
 case neg=>
  have HNE:sameB ⟨kind,ix,sub,tg,la,cr,sz,size,code,data,sq,bl,em,sum⟩ ⟨kind,ix,sub,tg,la,cr,sz',size',code',data',sq',bl',em',sum'⟩=false:=by
   unfold sameB
   rw[decide_eq_false_iff_not]
   intro h
   injection h with h1 h2 h3 h4 h5 h6 h7 h8 h9 h10 h11 h12 h13 h14
   exact hne (by assumption)
  rw[HNE]
  exact zjz kind ix sub tg la cr sz size code sq bl em sum sz' size' code' sq' bl' em' sum' ⟨data.toArray⟩ ⟨data'.toArray⟩ A1 A2 n1 c1 n2 c2 w hne t1 t2
 subst hne
 by_cases hne:size=size'
 case neg=>
  have HNE:sameB ⟨kind,ix,sub,tg,la,cr,sz,size,code,data,sq,bl,em,sum⟩ ⟨kind,ix,sub,tg,la,cr,sz,size',code',data',sq',bl',em',sum'⟩=false:=by
   unfold sameB
   rw[decide_eq_false_iff_not]
   intro h
   injection h with h1 h2 h3 h4 h5 h6 h7 h8 h9 h10 h11 h12 h13 h14
   exact hne (by assumption)
  rw[HNE]
  exact zj0 kind ix sub tg la cr sz size code sq bl em sum size' code' sq' bl' em' sum' ⟨data.toArray⟩ ⟨data'.toArray⟩ A1 A2 n1 c1 n2 c2 w hne t1 t2
 subst hne
 by_cases hne:code=code'
 case neg=>
  have HNE:sameB ⟨kind,ix,sub,tg,la,cr,sz,size,code,data,sq,bl,em,sum⟩ ⟨kind,ix,sub,tg,la,cr,sz,size,code',data',sq',bl',em',sum'⟩=false:=by
   unfold sameB
   rw[decide_eq_false_iff_not]
   intro h
   injection h with h1 h2 h3 h4 h5 h6 h7 h8 h9 h10 h11 h12 h13 h14
   exact hne (by assumption)
  rw[HNE]
  exact zj1 kind ix sub tg la cr sz size code sq bl em sum code' sq' bl' em' sum' ⟨data.toArray⟩ ⟨data'.toArray⟩ A1 A2 n1 c1 n2 c2 w hne t1 t2
 subst hne
 by_cases hne:data=data'
 case neg=>
  have HNE:sameB ⟨kind,ix,sub,tg,la,cr,sz,size,code,data,sq,bl,em,sum⟩ ⟨kind,ix,sub,tg,la,cr,sz,size,code,data',sq',bl',em',sum'⟩=false:=by
   unfold sameB
   rw[decide_eq_false_iff_not]
   intro h
   injection h with h1 h2 h3 h4 h5 h6 h7 h8 h9 h10 h11 h12 h13 h14
   exact hne (by assumption)
  rw[HNE]
  exact zj2 kind ix sub tg la cr sz size code sq bl em sum sq' bl' em' sum' ⟨data.toArray⟩ ⟨data'.toArray⟩ A1 A2 n1 c1 n2 c2 w (fun h=>hne (by simpa using h)) t1 t2
 subst hne
 by_cases hne:sq=sq'
 case neg=>
  have HNE:sameB ⟨kind,ix,sub,tg,la,cr,sz,size,code,data,sq,bl,em,sum⟩ ⟨kind,ix,sub,tg,la,cr,sz,size,code,data,sq',bl',em',sum'⟩=false:=by
   unfold sameB
   rw[decide_eq_false_iff_not]
   intro h
   injection h with h1 h2 h3 h4 h5 h6 h7 h8 h9 h10 h11 h12 h13 h14
   exact hne (by assumption)
  rw[HNE]
  exact zj3 kind ix sub tg la cr sz size code sq bl em sum sq' bl' em' sum' ⟨data.toArray⟩ A1 A2 n1 c1 n2 c2 w hne t1 t2
 subst hne
 by_cases hne:bl=bl'
 case neg=>
  have HNE:sameB ⟨kind,ix,sub,tg,la,cr,sz,size,code,data,sq,bl,em,sum⟩ ⟨kind,ix,sub,tg,la,cr,sz,size,code,data,sq,bl',em',sum'⟩=false:=by
   unfold sameB
   rw[decide_eq_false_iff_not]
   intro h
   injection h with h1 h2 h3 h4 h5 h6 h7 h8 h9 h10 h11 h12 h13 h14
   exact hne (by assumption)
  rw[HNE]
  exact zj4 kind ix sub tg la cr sz size code sq bl em sum bl' em' sum' ⟨data.toArray⟩ A1 A2 n1 c1 n2 c2 w hne t1 t2
 subst hne
 by_cases hne:em=em'
 case neg=>
  have HNE:sameB ⟨kind,ix,sub,tg,la,cr,sz,size,code,data,sq,bl,em,sum⟩ ⟨kind,ix,sub,tg,la,cr,sz,size,code,data,sq,bl,em',sum'⟩=false:=by
   unfold sameB
   rw[decide_eq_false_iff_not]
   intro h
   injection h with h1 h2 h3 h4 h5 h6 h7 h8 h9 h10 h11 h12 h13 h14
   exact hne (by assumption)
  rw[HNE]
  exact zj5 kind ix sub tg la cr sz size code sq bl em sum em' sum' ⟨data.toArray⟩ A1 A2 n1 c1 n2 c2 w hne t1 t2
 subst hne
 by_cases hne:sum=sum'
 case neg=>
  have HNE:sameB ⟨kind,ix,sub,tg,la,cr,sz,size,code,data,sq,bl,em,sum⟩ ⟨kind,ix,sub,tg,la,cr,sz,size,code,data,sq,bl,em,sum'⟩=false:=by
   unfold sameB
   rw[decide_eq_false_iff_not]
   intro h
   injection h with h1 h2 h3 h4 h5 h6 h7 h8 h9 h10 h11 h12 h13 h14
   exact hne (by assumption)
  rw[HNE]
  exact zj6 kind ix sub tg la cr sz size code sq bl em sum sum' ⟨data.toArray⟩ A1 A2 n1 c1 n2 c2 w hne t1 t2
 subst hne
 have HE:sameB ⟨kind,ix,sub,tg,la,cr,sz,size,code,data,sq,bl,em,sum⟩ ⟨kind,ix,sub,tg,la,cr,sz,size,code,data,sq,bl,em,sum⟩=true:=by unfold sameB;exact decide_eq_true rfl
 rw[HE]
 exact zj7 kind ix sub tg la cr sz size code sq bl em sum ⟨data.toArray⟩ A1 A2 n1 c1 n2 c2 w t1 t2
end
section
open Go.RowKit
set_option maxRecDepth 100000
set_option maxHeartbeats 2000000
theorem zj9 (b:Bool) (n:Int) (w:World):Calls Try.prog 98 #[.bool b,.int .i64 n] w fun e w'=>e= .returned (.int .i64 (if b=true then n else 0))∧ w=w':=by
 cases b
 all_goals
  go_enter Try.func98,Try.ntmps98
  go_wp2_with fail
  go_ret
  exact⟨rfl,rfl⟩
def Ow8 (w:World) (B g c:Nat) (l:List UInt8):Prop:=zb7 w B (some ⟨g,0,none⟩) 8 c l
theorem Ow8.set8 {w:World} {B g c:Nat} {l:List UInt8} (h:Ow8 w B g c l) (i:Nat) (x:UInt8):Ow8 (w.setCell ⟨g,i,none⟩ (bv x)) B g c (l.set i x):= by
 refine⟨by rw[List.length_set];exact h.hn,?_⟩
 have:=Own.stored h.own i (bv x)
 simpa [List.map_set] using this
theorem Ow8.at8 {w:World} {B g c:Nat} {l:List UInt8} (h:Ow8 w B g c l) (i:Nat) (hi:i < 8):∃ u:Int,w.cell? ⟨g,i,none⟩=some (.int .u8 u)∧ w.frozen? ⟨g,i,none⟩=false:=by
 obtain⟨g',u,e,hb,hlt,hu,hc,hf⟩:= h.own.cell (k:=i) hi
 injection e with e
 injection e with e
 subst e
 have hl:i < l.length:=by have:=h.hn;omega
 rw[List.getElem?_map,List.getElem?_eq_getElem hl] at hu
 have hu':u=bv (l[i]):= by simpa using hu.symm
 exact⟨_,by rw[hc,hu'];rfl,hf⟩
theorem zka (x k:Nat):((x / 256 ^ k:Nat):Int) / 256=((x / 256 ^ (k+1):Nat):Int):= by
 have:((x / 256 ^ k:Nat):Int) / 256=((x / 256 ^ k / 256:Nat):Int):= by push_cast;rfl
 rw[this,Nat.div_div_eq_div_mul,Nat.pow_succ]
theorem zkb (x:Nat):Value.int IntKind.u8 ((x:Int) % 256)=bv (UInt8.ofNat x):= by
 simp only[bv,UInt8.toNat_ofNat']
 congr 1
theorem zkc (at_ wd x:Nat) (B g c:Nat) (l:List UInt8) (w:World) (hx:x≤4294967295) (hw:at_+wd≤8) (hB:Ow8 w B g c l) :
 Calls Try.prog 97 #[.slice (some ⟨g,0,none⟩) 8 c,.int .i64 (at_:Nat),.int .i64 (wd:Nat),.int .i64 (x:Nat)] w fun e w'=>e= .returned (.tuple #[])∧ Ow8 w' B g c (putL l at_ wd x)∧ w.grownBy w' (some g):= by
 have HX:=zak hx
 clear hx
 go_enter Try.func97,Try.ntmps97
 go_wp2_with fail
 go_loopw [3,8] (fun v i wr=> ∃ k:Nat,k≤wd∧i= .int .i64 (k:Nat)∧ v= .int .i64 ((x / 256 ^ k:Nat):Int)∧ Ow8 wr B g c (putL l at_ k x)∧ w.grownBy wr (some g)) (fun _ i _=>wd - (intOf i).toNat)
 case atStart=>exact⟨0,by omega,rfl,by simp,hB,World.grownBy.refl _ _⟩
 case round=>
  obtain⟨k,hk,rfl,rfl,hBr,hg⟩:= hrel
  by_cases hlt:k < wd
  · obtain⟨u,hc,hf⟩:= hBr.at8 (at_+k) (by omega)
    have hi8:(at_:Int)+(k:Int) < 8:=by omega
    have hnat:((at_:Int)+(k:Int)).toNat=at_+k:=by omega
    have hq:x / 256 ^ k≤4294967295:=Nat.le_trans (Nat.div_le_self _ _) HX.out
    have HD:=zak (zka x k)
    obtain⟨y,hy⟩:∃ y,y=x / 256 ^ k:=⟨_,rfl⟩
    rw[← hy] at hq HD ⊢
    have HY:=zak hy
    clear hy
    go_wp2_with fail
    go_roundw
    case rel=>
     refine⟨k+1,by omega,by go_num,by rw[HD.out],?_,zbl hg (.inl rfl) _ _⟩
     rw[za6,← HY.out,zkb]
     exact hBr.set8 (at_+k) _
    case measure=>simp[intOf];omega
  · go_wp2_with fail
    obtain rfl:k=wd:=by omega
    exact bodyPost_end (by kernel_rfl) rfl ⟨rfl,hBr,hg⟩
end
end Go.Proofs.Ythdbckbpldlkeaa
