/- None -/
import Derived.Test.YthdbckbpldlkeaaQ25
namespace Go.Proofs.Ythdbckbpldlkeaa
set_option linter.unusedVariables false
set_option linter.unusedSimpArgs false
set_option linter.unnecessarySimpa false
section
open Go.RowKit
set_option maxRecDepth 100000
set_option maxHeartbeats 4000000
structure Rt (w W:World) (H B g:Nat) (l:List UInt8) (cs:Array Value):Prop where
 m:Blk W H 72 cs
 b:Ow8 W B g 8 l
 hg:H≠g
 gr:w.grownBy W (some g)
 hl:l.length=8
section
variable {w W W':World} {H B g:Nat} {l:List UInt8} {cs:Array Value}
theorem Rt.drew (h:Rt w W H B g l cs):Rt w W.drew H B g l cs:=⟨h.m,h.b.drew,h.hg,h.gr.trans (zbz _ _),h.hl⟩
theorem Rt.step {l':List UInt8} (h:Rt w W H B g l cs) (hb:Ow8 W' B g 8 l') (hl:l'.length=8) (hg:W.grownBy W' (some g)):Rt w W' H B g l' cs:=
 ⟨h.m.grown hg (by intro e;injection e with e;exact h.hg e),hb,h.hg,h.gr.trans hg,hl⟩
theorem Rt.byte (h:Rt w W H B g l cs) (i:Nat) (c:UInt8):Rt w (W.setCell ⟨g,i,none⟩ (bv c)) H B g (l.set i c) cs:=
 h.step (h.b.set8 i c) (by simp[h.hl]) (zbl (World.grownBy.refl _ _) (.inl rfl) _ _)
def RtR (w:World) (H B g:Nat) (l:List UInt8) (cs:Array Value) (v:Value) (e:Ending) (w':World):Prop:=e= .returned v∧Rt w w' H B g l cs
theorem zkd (at_ wd n:Nat) (h:Rt w W H B g l cs) (hx:n≤4294967295) (hw:at_+wd≤8) :
 Calls Try.prog 97 #[.slice (some ⟨g,0,none⟩) 8 8,.int .i64 (at_:Nat),.int .i64 (wd:Nat),.int .i64 (n:Nat)] W (RtR w H B g (putL l at_ wd n) cs (.tuple #[])):=
 (zkc at_ wd n B g 8 l W hx hw h.b).mono fun _ _ ⟨he,hB,hg⟩=> ⟨he,h.step hB (by rw[za7,h.hl]) hg⟩
theorem zke (A:Option Addr) (n c o m:Nat) (d:List UInt8) (h:Rt w W H B g l cs) (hn:n=d.length) (hom:o+m=8) (hnm:n≤m) (hs:Sl W A (d.map bv)) :
 ∃ W',(Builtin.copy_ #[32,32] 3 #[.slice (some ⟨g,o,none⟩) m m,.slice A n c]).run Try.prog W= .ok (goInt n) W'∧Rt w W' H B g (cpL l o d) cs∧W.grownBy W' (some g):= by
 by_cases h0:n=0
 · have hd:d= []:= List.eq_nil_of_length_eq_zero (by omega)
   subst h0 hd
   refine⟨W,run_copy_none W _ _ _ _ _ _ _ _ _ _ Try.underlying32 zb6 (by simp),?_,World.grownBy.refl _ _⟩
   have:cpL l o []=l:=by simp[cpL]
   rw[this]
   exact h
 · obtain⟨ad,rfl,_⟩:= hs.byte (j:=0) (by omega)
   rcases h.b.own.2 with ⟨hv,_⟩ | ⟨g',cap,cur,hv,hb,hgg,hle,hcm,hsz,ht⟩
   · injection hv with hv;cases hv
   injection hv with hv _ hcap
   injection hv with hv
   injection hv with hv
   subst hv
   subst hcap
   have hcur:cur=(l.map bv).toArray:=by
    have h1:cur.toList.length=8:=by simpa using hsz
    have h2:cur.toList=l.map bv:=by rw[← ht];exact (List.take_of_length_le (by omega)).symm
    rw[← h2]
   subst hcur
   have hr:=run_copy_row (P:=Try.prog) W 32 32 3 5 g o m m ad n c (l.map bv).toArray _ (d.map bv) Try.underlying32 zb6 hgg
    (by simp only[List.length_map];show d.length=min n m;omega) (fun j v hv=>by obtain⟨ad',e,hc⟩:= hs j v hv;injection e with e;subst e;exact hc) (by have:=h.hl;simp;omega) (zbj _)
   have hl:(l.map bv).toArray.toList.take o ++ d.map bv ++ (l.map bv).toArray.toList.drop (o+(d.map bv).length)=(cpL l o d).map bv:=by
    simp[cpL]
   rw[hl] at hr
   have hg:W.grownBy (W.setRow g ((cpL l o d).map bv).toArray) (some g):= ⟨rfl,rfl,rfl,by simp,fun i _ hne=>setRow_other W g i _ (by intro e;subst e;exact hne rfl)⟩
   have hcl:(cpL l o d).length=8:=by rw[za9 _ _ _ (by have:=h.hl;omega),h.hl]
   refine⟨_,by simpa [hn] using hr,h.step ⟨by omega,by simp[hcl],.inr ⟨g,8,_,rfl,hb,setRow_heap W g _ _ _ _ hgg,by omega,hcm,by simp[hcl],?_⟩⟩ hcl hg,hg⟩
   simp only[List.toList_toArray]
   exact List.take_of_length_le (by simp[hcl])
end
end
section
open Go.RowKit
set_option maxRecDepth 20000
def plB (b:Bool) (x y:Nat):Nat:=if b=true then x+y else x
def rfirB (k:Int) (n:Nat) (tg la cr sz:Bool) (sq em:Nat):Nat:=
 if k=1 then 128 else if k=2 then (if n=0 then plB sz 32 1 else plB sz 32 1+2+(4 - n) * 4) else if k=14 then (if n=0 then plB sz 64 1 else plB sz 64 1+2+(4 - n) * 4)
 else if k=3∨k=15 then plB la (plB tg 0 16+(7 - n) * 2) 1 else if k=4 then 64 else if k=5 then plB tg 96 16 else if k=6∨k=19 then plB sz (plB cr 192 4) 2
 else if k=7∨k=20 then 193+4 * em else if k=8∨k=16 then plB cr 160 4 else if k=9 then 163 else if k=10∨k=17 then 162 else if k=11∨k=18 then 161 else if k=12 then 96
 else if k=13 then plB tg 32 16 else plB la sq 128
def rbodL (k:Int) (n:Nat) (size code sq bl sum:Nat) (data:List UInt8):List UInt8:=
 if k=1 then putL z8 4 4 code else if k=2∨k=14 then (if n=0 then putL z8 4 4 size else cpL (putL z8 4 4 size) 4 data) else if k=3∨k=15 then cpL z8 1 data
 else if k=6∨k=19 then putL z8 4 4 size else if k=7∨k=20 then putL z8 1 2 sum else if k=8∨k=16 then z8.set 4 (UInt8.ofNat bl) else if k=10∨k=17 then (z8.set 1 (UInt8.ofNat sq)).set 2 (UInt8.ofNat bl)
 else if k=21 then cpL z8 1 data else z8
def rplcB (k:Int):Bool:=decide (k=1) || decide (k=2) || decide (k=14) || decide (k=4) || decide (k=6) || decide (k=19) || decide (k=8) || decide (k=16) || decide (k=12)
def rlaidL (k:Int) (n ix sub size code sq bl em sum:Nat) (tg la cr sz:Bool) (data:List UInt8):List UInt8:=
 if rplcB k=true then (putL ((rbodL k n size code sq bl sum data).set 0 (UInt8.ofNat (rfirB k n tg la cr sz sq em))) 1 2 ix).set 3 (UInt8.ofNat sub)
 else (rbodL k n size code sq bl sum data).set 0 (UInt8.ofNat (rfirB k n tg la cr sz sq em))
theorem zkf (x:Nat) (h:x≤127):x ||| 128=x+128:=by
 have h1:=Nat.two_pow_add_eq_or_of_lt (i:=7) (b:=x) (by omega) 1
 have h2:2 ^ 7 * 1=128:=by decide
 rw[h2] at h1
 rw[Nat.or_comm,← h1]
 omega
theorem zkg (em:Nat) (h:em≤7):193 ||| (em * 4)=193+4 * em:=by
 rcases (show em=0∨em=1∨em=2∨em=3∨em=4∨em=5∨em=6∨em=7 by omega) with rfl | rfl | rfl | rfl | rfl | rfl | rfl | rfl<;>rfl
theorem zkh (kind:Int) (ix sub sq bl em size code sum:Nat) (tg la cr sz:Bool) (data:List UInt8) (k1:1≤kind) (k2:kind≤21) (C2:sq≤127) (E2:em≤7) (h7:data.length≤7) (h4:kind=2∨kind=14→data.length≤4) :
 rlaidL kind data.length ix sub size code sq bl em sum tg la cr sz data=laidB ⟨kind,ix,sub,tg,la,cr,sz,size,code,data,sq,bl,em,sum⟩:= by
 rcases (show kind=1∨kind=2∨kind=3∨kind=4∨kind=5∨kind=6∨kind=7∨kind=8∨kind=9∨kind=10∨kind=11∨kind=12∨kind=13∨kind=14∨kind=15∨kind=16∨kind=17∨kind=18∨kind=19∨kind=20∨kind=21 by omega) with rfl | rfl | rfl | rfl | rfl | rfl | rfl | rfl | rfl | rfl | rfl | rfl | rfl | rfl | rfl | rfl | rfl | rfl | rfl | rfl | rfl
 · rfl
 · have:=h4 (.inl rfl)
   rcases data with _ | ⟨a,_ | ⟨b,_ | ⟨c,_ | ⟨d,_ | ⟨e,r⟩⟩⟩⟩⟩
   · cases sz<;>(show _=_;kernel_rfl)
   · cases sz<;>(show _=_;kernel_rfl)
   · cases sz<;>(show _=_;kernel_rfl)
   · cases sz<;>(show _=_;kernel_rfl)
   · cases sz<;>(show _=_;kernel_rfl)
   · simp at this
 · have hd:∀ n,n≤7→ ∀ tg la:Bool,plB la (plB tg 0 16+(7 - n) * 2) 1=(orB la (orB tg 0 16) 1) ||| ((7 - n) * 2):= by decide
   have:=hd data.length h7 tg la
   show (cpL z8 1 data).set 0 (UInt8.ofNat (plB la (plB tg 0 16+(7 - data.length) * 2) 1))=(cpL z8 1 data).set 0 (UInt8.ofNat ((orB la (orB tg 0 16) 1) ||| ((7 - data.length) * 2)))
   rw[this]
 · rfl
 · cases tg<;>(show _=_;kernel_rfl)
 · cases cr<;>cases sz<;>(show _=_;kernel_rfl)
 · show (putL z8 1 2 sum).set 0 (UInt8.ofNat (193+4 * em))=(putL z8 1 2 sum).set 0 (UInt8.ofNat (193 ||| (em * 4)))
   rw[zkg em E2]
 · cases cr<;>(show _=_;kernel_rfl)
 · rfl
 · rfl
 · rfl
 · rfl
 · cases tg<;>(show _=_;kernel_rfl)
 · have:=h4 (.inr rfl)
   rcases data with _ | ⟨a,_ | ⟨b,_ | ⟨c,_ | ⟨d,_ | ⟨e,r⟩⟩⟩⟩⟩
   · cases sz<;>(show _=_;kernel_rfl)
   · cases sz<;>(show _=_;kernel_rfl)
   · cases sz<;>(show _=_;kernel_rfl)
   · cases sz<;>(show _=_;kernel_rfl)
   · cases sz<;>(show _=_;kernel_rfl)
   · simp at this
 · have hd:∀ n,n≤7→ ∀ tg la:Bool,plB la (plB tg 0 16+(7 - n) * 2) 1=(orB la (orB tg 0 16) 1) ||| ((7 - n) * 2):= by decide
   have:=hd data.length h7 tg la
   show (cpL z8 1 data).set 0 (UInt8.ofNat (plB la (plB tg 0 16+(7 - data.length) * 2) 1))=(cpL z8 1 data).set 0 (UInt8.ofNat ((orB la (orB tg 0 16) 1) ||| ((7 - data.length) * 2)))
   rw[this]
 · cases cr<;>(show _=_;kernel_rfl)
 · rfl
 · rfl
 · cases cr<;>cases sz<;>(show _=_;kernel_rfl)
 · show (putL z8 1 2 sum).set 0 (UInt8.ofNat (193+4 * em))=(putL z8 1 2 sum).set 0 (UInt8.ofNat (193 ||| (em * 4)))
   rw[zkg em E2]
 · show (cpL z8 1 data).set 0 (UInt8.ofNat (plB la sq 128))=(cpL z8 1 data).set 0 (UInt8.ofNat (orB la sq 128))
   cases la
   · rfl
   · show _=(cpL z8 1 data).set 0 (UInt8.ofNat (sq ||| 128))
     rw[zkf sq C2]
     rfl
end
end Go.Proofs.Ythdbckbpldlkeaa
