/- None -/
import Derived.Test.YtehabbnohoomjaaGreatDoorP24
namespace Go.Proofs.YtehabbnohoomjaaGreatDoor
set_option linter.unusedVariables false
set_option linter.unusedSimpArgs false
set_option linter.unnecessarySimpa false
section
open Go.RowKit Go.Extern.Stop Go.Stop Go.Extern
set_option maxRecDepth 20000
set_option maxHeartbeats 8000000
def WrP (J:JS) (S:FS) (kd:Int) (l:List SV) (R:JS×FS×Int):Prop:= ∃ b er,BuildR l b er∧((er≠0∧R=(J,S,er))∨ (er=0∧R=appJ J S kd b))
def RunJ (J:JS) (S:FS):Prop:=(J.dead || S.off)=true∨(J=openJ S∧S.off=false)
def WriteR (a:Nat→Addr) (Fj:Nat→Prop) (pj:Nat) (q:FP) (A:Option Addr) (n c:Nat) (J:JS) (S:FS) (kd:Int) (l:List SV) (w:World) (e:Ending) (w':World):Prop:=
 ∃ R ds' u,WrP J S kd l R∧e= .returned (.agg #[u])∧ zm6 w' a R.2.2 u∧JD w' (fun g=>Fj g∨w.heap.size≤g) pj q.p A n c R.1 ds'∧FD w' q R.2.1∧zcj (fun g=>Fj g∨q.F g) w w'
section
variable {Fj:Nat→Prop} {pj n c:Nat} {A:Option Addr} {J:JS} {ds:List (Option Addr×Nat)} {q:FP} {S:FS}
theorem zn6 (kd:Int) (w:World) (hD:JD w Fj pj q.p A n c J ds) (hS:FD w q S) (hdj:∀ g,Fj g→ ¬ q.F g) (hok:RunJ J S) {A2:Option Addr} {m c2:Nat} {d:List UInt8} (hm:m=d.length) (hml:m≤35184372088832) (hs:Sl w A2 (d.map bv)) (hops:S.ops+2000 < 4611686018427387904) :
 Calls Tryz.prog 134 #[.pointer (some ⟨pj,0,none⟩),.int .i64 kd,.slice A2 m c2] w (AppR Fj pj q A n c (appJ J S kd d) w):= by
 rcases hok with h | ⟨h1,h2⟩
 · exact zj5 kd w hD hS hdj h
 · exact zj6 kd w hD hS hdj h1 h2 hm hml hs hops
theorem zn7 (a:Nat→Addr) (M:Nat) (pv:Nat) (kd:Int) (As:Option Addr) (ns cs:Nat) (l:List SV) (w:World) (hG:GV w a M) (hM:M≤w.heap.size) (hv:w.cell? ⟨pv,0,none⟩=some (.pointer (some ⟨pj,0,none⟩)))
 (hD:JD w Fj pj q.p A n c J ds) (hS:FD w q S) (hdj:∀ g,Fj g→ ¬ q.F g) (hok:RunJ J S) (hops:S.ops+2000 < 4611686018427387904)
 (hFw:∀ g,Fj g∨q.F g→g < w.heap.size∧M≤g) (hn:ns=l.length) (hc:ns≤cs) (hl:ns≤1000) (hL:SlV w As l) (hf:fitsV l) :
 Calls Tryz.prog 93 #[.pointer (some ⟨pv,0,none⟩),.int .i64 kd,.slice As ns cs] w (WriteR a Fj pj q A n c J S kd l w):= by
 have q0:=zbm w 145 #[.nilIface]
 have hb0:=zbf (Below.refl w.heap.size w) (.cells #[.nilIface] 145)
 obtain⟨W0,hW0⟩:∃ W,W=w.alloc (.cells #[.nilIface] 145):= ⟨_,rfl⟩
 obtain⟨P,hP⟩:∃ P,P=w.heap.size:=⟨_,rfl⟩
 rw[← hW0] at q0 hb0
 rw[← hP] at q0
 have HQ:=zak q0
 have HB0:=zak hb0
 have HW0:=zak hW0
 have HP:=zak hP
 have HBU:=zak (znt As ns cs l W0 hn hc (by omega) (hL.below hb0) hf)
 have HG:=zak hG
 have HM:=zak hM
 have HV:=zak hv
 have HD:=zak hD
 have HS:=zak hS
 have HDJ:=zak hdj
 have HOK:=zak hok
 have HOP:=zak hops
 have HFW:=zak hFw
 obtain⟨R0,hR0⟩:∃ R0,R0=WriteR a Fj pj q A n c J S kd l w:=⟨_,rfl⟩
 rw[← hR0]
 have HR:=zak hR0
 clear q0 hb0 hW0 hP hG hM hv hD hS hdj hok hops hFw hn hc hl hL hf hR0
 go_enter Tryz.func93,Tryz.ntmps93
 go_wp2_with fail
 rw[← HW0.out,← HP.out]
 refine HBU.out.mono ?_
 rintro e w1 ⟨Ab,nb,cb,b,er,rfl,hOb,hBR,hb1⟩
 have HB1:=zak (zbd hb1 HB0.out)
 have HOB:=zak hOb
 have HBR:=zak hBR
 have HQ1:=zak (HQ.out.below hb1 HQ.out.lt)
 clear hOb hBR hb1
 go_wp2_with fail
 refine (zm7 er a _ (HG.out.below HB1.out)).mono ?_
 rintro e w2 ⟨u,rfl,hu,hb2⟩
 have HB2:=zak (zbd hb2 HB1.out)
 have HOB2:=zak (HOB.out.below hb2)
 have HQ2:=zak (HQ1.out.below hb2 HQ1.out.lt)
 have HU:=zak hu
 have hba:=zbf (Below.refl w2.heap.size w2) (.cells #[u] 145)
 have HU3:=zak (hu.below hba)
 have HB3:=zak (zbd hba HB2.out)
 have HOB3:=zak (HOB2.out.below hba)
 have HQ3:=zak (HQ2.out.below hba HQ2.out.lt)
 clear hu hb2 HQ HQ1 HB0 HBU HOB hba
 rcases HU.out.shape with ⟨h0,rfl⟩ | ⟨h0,tt,x,rfl⟩
 · subst h0
   go_wp2_with fail
   refine (znc _).mono ?_
   rintro e w4 ⟨rfl,hb4⟩
   have HB4:=zak (zbd hb4 HB3.out)
   have HQ4:=zak (HQ3.out.below hb4 HQ3.out.lt)
   have HOB4:=zak (HOB3.out.below hb4)
   have v0:=(HB4.out.cell (zal HV.out)).trans HV.out
   clear hb4
   go_wp2_with fail
   refine (zn6 kd _ (HD.out.below HB4.out) (HS.out.below HB4.out) HDJ.out HOK.out HOB4.out.hn (by
    have h1:=HOB4.out.hn
    have h2:b.length≤960:=by
     rcases HBR.out with ⟨h,_⟩ | ⟨_,h | h⟩
     · exact absurd rfl h
     · rw[h.2.1];simp
     · rw[h.2.1];exact h.1
    omega) HOB4.out.sl HOP.out).mono ?_
   rintro e w5 ⟨ds',rfl,hJ5,hF5,hO5⟩
   have hO5':zcj (fun g=>Fj g∨q.F g) w w5:=(zcj.of_below HB4.out).trans hO5 (fun _ _ h=>h)
   have HO5:=zak hO5'
   have HJ5:=zak hJ5
   have HF5:=zak hF5
   have HQ5:=zak (show Blk w5 P 145 #[.nilIface] from (hO5.block P HQ4.out.lt (by
    intro h
    have:=(HFW.out P h).1
    rw[HP.out] at this
    omega)).trans HQ4.out)
   have HG5:=zak (HG.out.only hO5' (fun g h=>(HFW.out g h).2))
   have H45:=zak (And.intro HB4.out.size hO5.size)
   clear hJ5 hF5 hO5 hO5' v0
   go_wp2_with fail
   refine (zm7 _ a _ HG5.out).mono ?_
   rintro e w6 ⟨u6,rfl,hu6,hb6⟩
   have q6:=HQ5.out.below hb6 HQ5.out.lt
   have c6:=q6.cell 0 (u:= .nilIface) rfl
   have f6:=q6.frozen 0
   have HFIN:Hid (R0 (.returned (.agg #[u6])) (w6.setCell ⟨P,0,none⟩ u6)):= zak (by
    rw[HR.out]
    have hPw:w.heap.size≤P:=by rw[HP.out];exact Nat.le_refl _
    have ho6:zcj (fun k=>k=P) w6 (w6.setCell ⟨P,0,none⟩ u6):= zcj.set (fun k=>k=P) (zcj.refl _ w6) (p:=P) (i:=0) rfl u6
    refine⟨appJ J S kd b,ds',u6,⟨b,0,HBR.out,.inr ⟨rfl,rfl⟩⟩,rfl,zm6.only hu6 q6 ho6,?_,?_,?_⟩
    · have h1:=(HJ5.out.below hb6).only ho6 (fun g hg e=>by
       have hPw4:=HQ4.out.lt
       rcases hg with h | h
       · have:=(HFW.out g (.inl h)).1
         omega
       · omega)
      exact h1.mono (fun g _ h=>h.imp id (fun h=>Nat.le_trans HB4.out.size h))
    · exact (HF5.out.below hb6).only ho6 (fun g hg e=>by
       have:=(HFW.out g (.inr hg)).1
       omega)
    · exact zcj.setNew (HO5.out.step hb6) hPw _)
   have HQ6:=zak q6
   rcases hu6.shape with ⟨_,rfl⟩ | ⟨_,tt,x,rfl⟩
   · clear hu6 hb6
     go_wp2_with fail
     exact zm0 rfl rfl (by rfl) (HQ6.out.set_ 0 _) HFIN.out
   · clear hu6 hb6
     go_wp2_with fail
     exact zm0 rfl rfl (by rfl) (HQ6.out.set_ 0 _) HFIN.out
 · have hCh:Ch (w2.alloc (.cells #[.iface tt x] 145)) a (endV er) [codeV er] (.iface tt x):= by
    rcases HU3.out with ⟨h,_⟩ | ⟨_,h⟩
    · exact absurd h h0
    · exact h
   have HDP:=zak (znb a M (endV er) [codeV er] (.iface tt x) _ (HG.out.below HB3.out) hCh (Nat.le_trans HM.out HB3.out.size) (by simp))
   rw[show (([codeV er].length:Nat):Int)=1 from rfl] at HDP
   have HNZ:=zak h0
   clear hCh h0
   go_wp2_with fail
   refine HDP.out.mono ?_
   rintro e w4 ⟨rfl,hb4⟩
   have HB4:=zak (zbd hb4 HB3.out)
   have q4:=HQ3.out.below hb4 HQ3.out.lt
   have k9:=(zbm w2 145 #[.iface tt x]).below hb4 (zbm w2 145 #[.iface tt x]).lt
   have x9:=k9.cell 0 (u:= .iface tt x) rfl
   have c4:=q4.cell 0 (u:= .nilIface) rfl
   have f4:=q4.frozen 0
   have HFIN:Hid (R0 (.returned (.agg #[.iface tt x])) (w4.setCell ⟨P,0,none⟩ (.iface tt x))):= zak (by
    rw[HR.out]
    have hPw:w.heap.size≤P:=by rw[HP.out];exact Nat.le_refl _
    have ho4:zcj (fun k=>k=P) w4 (w4.setCell ⟨P,0,none⟩ (.iface tt x)):= zcj.set (fun k=>k=P) (zcj.refl _ w4) (p:=P) (i:=0) rfl _
    refine⟨(J,S,er),ds,.iface tt x,⟨b,er,HBR.out,.inl ⟨HNZ.out,rfl⟩⟩,rfl,zm6.only (HU3.out.below hb4) q4 ho4,?_,?_,?_⟩
    · have h1:=(HD.out.below HB4.out).only ho4 (fun g hg e=>by
       have:=(HFW.out g (.inl hg)).1
       omega)
      exact h1.mono (fun g _ h=> .inl h)
    · exact (HS.out.below HB4.out).only ho4 (fun g hg e=>by
       have:=(HFW.out g (.inr hg)).1
       omega)
    · exact zcj.setNew (zcj.of_below HB4.out) hPw _)
   have HQ4:=zak q4
   clear hb4 q4 k9
   go_wp2_with fail
   exact zm0 rfl rfl (by rfl) (HQ4.out.set_ 0 _) HFIN.out
end
end
section
open Go.RowKit Go.Extern.Stop Go.Stop Go.Extern
set_option maxRecDepth 20000
set_option maxHeartbeats 8000000
theorem zn8 (a:Nat→Addr) (q:Nat) (t:List UInt8) (e:FEnd) (cs:List Nat) (v:Value) (w w0:World) (hC:Ch w0 a e cs v) (h0:Below w0.heap.size w0 w) (hq:Blk w q 182 #[.string (bs t)]) (hqn:w0.heap.size≤q) :
 Calls Tryz.prog 154 #[v,.iface 180 (.pointer (some ⟨q,0,none⟩)),.bool true] w fun e' w'=>e'= .returned (.bool (isT e t))∧ Below w.heap.size w w':=by
 obtain⟨f,hf⟩:= zmm w0 a e
 have HF:=zak hf
 have HC:=zak hC
 have H0:=zak h0
 have HQ:=zak hq
 clear hf hC h0 hq
 go_enter Tryz.func154,Tryz.ntmps154
 go_wp2_with fail
 go_loopw [0,6,7,8,9,10,12,13] (fun u _ _ _ _ _ _ _ wr=> ∃ ds,Hid (Ch w0 a e ds u)∧ Hid (Below w.heap.size w wr)) (fun u _ _ _ _ _ _ _ _=>f u)
 case atStart=>exact⟨cs,HC,zak (Below.refl _ _)⟩
 case round=>
  obtain⟨ds,HCr,HBr⟩:= hrel
  have HB0:=zak (zbd HBr.out H0.out)
  cases ds with
  | cons c ds=>
    obtain⟨p,u,rfl,hB,hU⟩:= HCr.out
    have HUN:=zak (zmn p c u wr (hB.below HB0.out hB.lt))
    have q1:=eq_lw (.pointer (some ⟨p,0,none⟩)) (.pointer (some ⟨q,0,none⟩))
    have t1:=zl9 (.pointer (some ⟨p,0,none⟩))
    have t2:=zma (.pointer (some ⟨p,0,none⟩))
    have m1:=m_unw (.pointer (some ⟨p,0,none⟩))
    obtain⟨tt,x,rfl⟩:= zmt hU
    have HU:=zak hU
    clear hB hU
    go_wp2_with fail
    refine HUN.out.mono ?_
    rintro e w2 ⟨rfl,rfl⟩
    go_wp2_with fail
    go_roundw
    case rel=>exact⟨ds,HU,HBr⟩
    case measure=>rw[HF.out _ _ HU.out,HF.out _ _ HCr.out];simp
  | nil=>
    cases e with
    | sent n=>
      have hv:_=_:=HCr.out
      subst hv
      obtain⟨an,han⟩:∃ x,x=a n:=⟨_,rfl⟩
      rw[← han]
      have q1:=zmu (.pointer (some an)) (.pointer (some ⟨q,0,none⟩))
      have t1:=zl4 (.pointer (some an))
      have t2:=zl2 (.pointer (some an))
      have t3:=zl3 (.pointer (some an))
      clear han
      go_wp2_with fail
      go_ret
      exact⟨rfl,HBr.out⟩
    | txt s=>
      obtain⟨p,rfl,hB⟩:= HCr.out
      have hp2:=hB.below HB0.out hB.lt
      have hq2:=HQ.out.below HBr.out HQ.out.lt
      have hne:(⟨p,0,none⟩:Addr)≠ ⟨q,0,none⟩:= by intro e';injection e' with e';have:=hB.lt;omega
      have q1:=eq_wn hne hp2 hq2
      have t1:=zl8 (.pointer (some ⟨p,0,none⟩))
      have t2:=zl6 (.pointer (some ⟨p,0,none⟩))
      have t3:=zl7 (.pointer (some ⟨p,0,none⟩))
      have m1:=m_is (.pointer (some ⟨p,0,none⟩))
      have HW:=zak (zmq p q s t wr hp2 hq2)
      obtain⟨b,hb⟩:∃ b,b=decide (t=s):= ⟨_,rfl⟩
      have HR:Hid (isT (.txt s) t=b):= zak (by rw[hb];rfl)
      rw[← hb] at HW
      clear hB hp2 hq2 hne hb
      go_wp2_with fail
      refine HW.out.mono ?_
      rintro e w2 ⟨rfl,hb2⟩
      have HB2:=zak (zbd hb2 HBr.out)
      clear hb2
      cases b
      · go_wp2_with fail
        go_ret
        exact⟨za1 HR.out.symm,HB2.out⟩
      · go_wp2_with fail
        go_ret
        exact⟨za1 HR.out.symm,HB2.out⟩
theorem zn9 (t:List UInt8) (w:World):Calls Tryz.prog 91 #[.agg #[.nilIface],.string (bs t)] w fun e w'=>e= .returned (.bool false)∧ Below w.heap.size w w':=by
 have HB:=zak (zbf (Below.refl w.heap.size w) (.cells #[.nilIface] 145))
 go_enter Tryz.func91,Tryz.ntmps91
 go_wp2_with fail
 go_ret
 exact⟨rfl,HB.out⟩
theorem zoa (a:Nat→Addr) (q:Nat) (t:List UInt8) (e:FEnd) (cs:List Nat) (v:Value) (w w0:World) (hC:Ch w0 a e cs v) (h0:Below w0.heap.size w0 w) (hq:Blk w q 182 #[.string (bs t)]) (hqn:w0.heap.size≤q) :
 Calls Tryz.prog 130 #[v,.iface 180 (.pointer (some ⟨q,0,none⟩))] w fun e' w'=>e'= .returned (.bool (isT e t))∧ Below w.heap.size w w':=by
 have H:=zak (zn8 a q t e cs v w w0 hC h0 hq hqn)
 obtain⟨tt,x,rfl⟩:= zmt hC
 have t1:=fun w=>zlz _ _ _ (zlf (.pointer (some ⟨q,0,none⟩)) w)
 have m1:=m_cmp (hdl 180)
 have c1:=fun w=>zml _ _ w (cmp_w w)
 simp only[rvl,rty,hdl] at t1 m1 c1
 clear hC hq h0
 go_enter Tryz.func130,Tryz.ntmps130
 go_wp2_with fail
 refine H.out.mono ?_
 rintro e w2 ⟨rfl,hb2⟩
 have HB:=zak hb2
 clear hb2
 go_wp2_with fail
 go_ret
 exact⟨rfl,HB.out⟩
theorem zob (a:Nat→Addr) (t:List UInt8) (e:FEnd) (cs:List Nat) (v:Value) (w:World) (hC:Ch w a e cs v) :
 Calls Tryz.prog 91 #[.agg #[v],.string (bs t)] w fun e' w'=>e'= .returned (.bool (isT e t))∧ Below w.heap.size w w':=by
 have hb:=zbf (zbf (Below.refl w.heap.size w) (.cells #[v] 145)) (.cells #[.string (bs t)] 182)
 have kk:=zbn w 145 182 #[v] #[.string (bs t)]
 have HI:=zak (zoa a (w.heap.size+1) t e cs v _ w hC hb kk.2 (by omega))
 have HB:=zak hb
 obtain⟨b,hbb⟩:∃ b,b=isT e t:=⟨_,rfl⟩
 rw[← hbb] at HI ⊢
 obtain⟨tt,x,rfl⟩:= zmt hC
 clear hC hb kk hbb
 go_enter Tryz.func91,Tryz.ntmps91
 go_wp2_with fail
 refine HI.out.mono ?_
 rintro e' w2 ⟨rfl,hb2⟩
 have HB2:=zak (zbd hb2 HB.out)
 clear hb2
 go_wp2_with fail
 go_ret
 exact⟨rfl,HB2.out⟩
end
section
open Go.RowKit Go.Extern.Stop Go.Stop Go.Extern
set_option maxRecDepth 20000
set_option maxHeartbeats 8000000
def vauC (x0 xs:Value) (odd off:Bool):Array Value:= #[x0,xs,.bool odd,.bool off]
def EndR (pv:Nat) (x0 xs xl:Value) (odd off:Bool) (er:Int) (w:World) (e:Ending) (w':World):Prop:=
 e= .returned (.int .u32 (codeV er:Nat))∧ Blk w' pv 90 (vauC x0 (if er=0 then xl else xs) (if er=0 then false else odd) (off || decide (er=7)))∧ zcj (fun g=>g=pv) w w'
theorem zoc (a:Nat→Addr) (M pv Pl Pv:Nat) (x0 xs:Value) (odd off:Bool) (As:Option Addr) (ns cs:Nat) (er:Int) (u:Value) (w:World) (hG:GV w a M) (hM:M≤w.heap.size) (hMv:M≤pv) (hu:zm6 w a er u)
 (hV:Blk w pv 90 (vauC x0 xs odd off)) (hl:Blk w Pl 27 #[.slice As ns cs]) (hv:Blk w Pv 34 #[.pointer (some ⟨pv,0,none⟩)]) :
 Calls Tryz.prog 89 #[.agg #[u],.pointer (some ⟨Pl,0,none⟩),.pointer (some ⟨Pv,0,none⟩)] w (EndR pv x0 xs (.slice As ns cs) odd off er w):= by
 have q0:=zbm w 145 #[u]
 have hb0:=zbf (Below.refl w.heap.size w) (.cells #[u] 145)
 obtain⟨W0,hW0⟩:∃ W,W=w.alloc (.cells #[u] 145):= ⟨_,rfl⟩
 obtain⟨P,hP⟩:∃ P,P=w.heap.size:=⟨_,rfl⟩
 rw[← hW0] at q0 hb0
 rw[← hP] at q0
 have HQ:=zak q0
 have HB0:=zak hb0
 have HW0:=zak hW0
 have HP:=zak hP
 have HU:=zak hu
 have HU0:=zak (hu.below hb0)
 have HG:=zak hG
 have HM:=zak hM
 have HMV:=zak hMv
 have HV:=zak hV
 have HL:=zak hl
 have HPV:=zak hv
 have hne:pv≠P:=by have:=hV.lt;rw[hP];omega
 obtain⟨R0,hR0⟩:∃ R0,R0=EndR pv x0 xs (.slice As ns cs) odd off er w:=⟨_,rfl⟩
 rw[← hR0]
 have HR:=zak hR0
 clear q0 hb0 hW0 hP hu hG hM hMv hV hl hv hR0
 rcases HU.out.shape with ⟨h0,rfl⟩ | ⟨h0,tt,x,rfl⟩
 · subst h0
   go_enter Tryz.func89,Tryz.ntmps89
   go_wp2_with fail
   rw[← HW0.out,← HP.out]
   have x0':=HQ.out.cell 0 (u:= .nilIface) rfl
   go_wp2_with fail
   refine (znc _).mono ?_
   rintro e w1 ⟨rfl,hb1⟩
   have HB1:=zak (zbd hb1 HB0.out)
   have v1:=HV.out.below HB1.out HV.out.lt
   have l1:=HL.out.below HB1.out HL.out.lt
   have p1:=HPV.out.below HB1.out HPV.out.lt
   have lc:=l1.cell 0 (u:= .slice As ns cs) rfl
   have pc:=p1.cell 0 (u:= .pointer (some ⟨pv,0,none⟩)) rfl
   unfold vauC at v1
   obtain⟨v1_c0,v1_c1,v1_c2,v1_c3⟩:= zbi v1
   have v1_f:=v1.frozen
   go_wp2_with fail
   have HN1:Hid (Pl≠pv):= zak (zm1 v1 l1 (by decide))
   have HN2:Hid (Pv≠pv):= zak (zm1 v1 p1 (by decide))
   have L1:=zak l1
   have P1:=zak p1
   refine wp_region_held_drew (S:=(fun w'=>w'.cell? ⟨Pl,0,none⟩=some (.slice As ns cs)∧ w'.cell? ⟨Pv,0,none⟩=some (.pointer (some ⟨pv,0,none⟩)))) (by kernel_rfl) ?hS1 (fun hHeld=>?rest1)
   case hS1=>((try dsimp only);(exact⟨lc,pc⟩))
   case' rest1=>skip
   iterate 5 (refine tkN ?_;try simp only[PqL,Act.put])
   refine wpAnyH_ready (rs:= [5]) (by kernel_rfl) (by simp) ?_
   refine AllReadyH.cons (o:=_) rfl (fun K hK=>?_) .nil
   go_simp
   refine hK.out _ _ ?hS9 (fun hHeld=>?rest9)
   case hS9=>((try dsimp only);(exact⟨(L1.out.far (p:=⟨pv,1,none⟩) HN1.out _).cell 0 rfl,(P1.out.far (p:=⟨pv,1,none⟩) HN2.out _).cell 0 rfl⟩))
   case' rest9=>(clear hK K;try simp only[PqL,Act.put])
   refine tkH 6 ?_
   try simp only[PqL,Act.put]
   refine tkH 7 ?_
   try simp only[PqL,Act.put]
   refine wpAnyH_ready (rs:= [8]) (by kernel_rfl) (by simp) ?_
   refine AllReadyH.cons (o:=_) rfl (fun K hK=>?_) .nil
   go_simp
   refine hK.out _ _ ?hS14 (fun hHeld=>?rest14)
   case hS14=>((try dsimp only);(exact⟨((L1.out.far (p:=⟨pv,1,none⟩) HN1.out _).far (p:=⟨pv,2,none⟩) HN1.out _).cell 0 rfl,((P1.out.far (p:=⟨pv,1,none⟩) HN2.out _).far (p:=⟨pv,2,none⟩) HN2.out _).cell 0 rfl⟩))
   case' rest14=>(clear hK K;try simp only[PqL,Act.put])
   refine wpAnyH_done (by kernel_rfl) ?_ _
   have hEnd:=hHeld.2
   repeat (clear hHeld)
   have hW1:zcj (fun k=>k=pv) w ((w1.setCell ⟨pv,1,none⟩ (.slice As ns cs)).setCell ⟨pv,2,none⟩ (.bool false)).drew:=(zcj.set (fun k=>k=pv) (zcj.set (fun k=>k=pv) (zcj.of_below HB1.out) (p:=pv) (i:=1) rfl _) (p:=pv) (i:=2) rfl _).drew
   have HBw:=zak hW1
   have HVb:Hid (Blk ((w1.setCell ⟨pv,1,none⟩ (.slice As ns cs)).setCell ⟨pv,2,none⟩ (.bool false)).drew pv 90 (vauC x0 (.slice As ns cs) false off)):= zak ((v1.set_ 1 (.slice As ns cs)).set_ 2 (.bool false))
   have HPb:Hid (Blk ((w1.setCell ⟨pv,1,none⟩ (.slice As ns cs)).setCell ⟨pv,2,none⟩ (.bool false)).drew Pv 34 #[.pointer (some ⟨pv,0,none⟩)]):= zak ((P1.out.far (p:=⟨pv,1,none⟩) HN2.out _).far (p:=⟨pv,2,none⟩) HN2.out _)
   have HQb:Hid (Blk ((w1.setCell ⟨pv,1,none⟩ (.slice As ns cs)).setCell ⟨pv,2,none⟩ (.bool false)).drew P 145 #[.nilIface]):= zak (((HQ.out.below hb1 HQ.out.lt).far (p:=⟨pv,1,none⟩) (by exact Ne.symm hne) _).far (p:=⟨pv,2,none⟩) (by exact Ne.symm hne) _)
   have HNV:Hid (Pv≠pv∧P≠pv):= zak ⟨HN2.out,Ne.symm hne⟩
   obtain⟨Wb,hWb⟩:∃ W,W=((w1.setCell ⟨pv,1,none⟩ (.slice As ns cs)).setCell ⟨pv,2,none⟩ (.bool false)).drew:=⟨_,rfl⟩
   rw[← hWb] at HBw HVb HPb HQb ⊢
   clear hW1 hWb v1 v1_c0 v1_c1 v1_c2 v1_c3 v1_f l1 p1 lc pc L1 P1 HN1 HN2 HB1 hb1 x0' HU HU0
   cases off
   · skip
     have v2:=HVb.out
     unfold vauC at v2
     obtain⟨v2_c0,v2_c1,v2_c2,v2_c3⟩:= zbi v2
     have v2_f:=v2.frozen
     have pc:=HPb.out.cell 0 (u:= .pointer (some ⟨pv,0,none⟩)) rfl
     have xq:=HQb.out.cell 0 (u:= .nilIface) rfl
     go_wp2_with fail
     refine wp_region_held_drew (S:=(fun w'=>w'.cell? ⟨Pv,0,none⟩=some (.pointer (some ⟨pv,0,none⟩))∧ w'.cell? ⟨pv,3,none⟩=some (.bool false)∧ w'.cell? ⟨P,0,none⟩=some (.nilIface))) (by kernel_rfl) ?hS16 (fun hHeld=>?rest16)
     case hS16=>((try dsimp only);(exact⟨pc,v2_c3,xq⟩))
     case' rest16=>skip
     iterate 7 (refine tkN ?_;try simp only[PqL,Act.put])
     refine wpAnyH_ready (rs:= [7]) (by kernel_rfl) (by simp) ?_
     refine AllReadyH.cons (o:=_) rfl (fun K hK=>?_) .nil
     go_simp
     have HSY:=zn9 offT Wb.drew
     rw[show bs offT=(⟨#[116,104,101,32,112,111,119,101,114,32,105,115,32,111,102,102]⟩:ByteArray) from rfl] at HSY
     refine HSY.mono ?_
     clear HSY
     rintro e wc ⟨rfl,hbs⟩
     have hbs':Below Wb.heap.size Wb wc:=⟨hbs.os,hbs.tape,hbs.output,hbs.size,hbs.block⟩
     have HBS:=zak hbs'
     try dsimp only
     refine hK.out _ _ ?hS26 (fun hHeld=>?rest26)
     case hS26=>((try dsimp only);(exact⟨(HBS.out.cell (zal pc)).trans pc,(HBS.out.cell (zal v2_c3)).trans v2_c3,(HBS.out.cell (zal xq)).trans xq⟩))
     case' rest26=>(clear hK K;try simp only[PqL,Act.put])
     clear hbs hbs'
     refine tkH 8 ?_
     try simp only[PqL,Act.put]
     refine tkH 9 ?_
     try simp only[PqL,Act.put]
     refine tkH 10 ?_
     try simp only[PqL,Act.put]
     have VC:=zak (show Blk wc pv 90 (vauC x0 (.slice As ns cs) false false) from HVb.out.below HBS.out HVb.out.lt)
     have PC:=zak (show Blk wc Pv 34 #[.pointer (some ⟨pv,0,none⟩)] from HPb.out.below HBS.out HPb.out.lt)
     have QC:=zak (show Blk wc P 145 #[.nilIface] from HQb.out.below HBS.out HQb.out.lt)
     have fz9:=VC.out.frozen
     refine wpAnyH_ready (rs:= [11]) (by kernel_rfl) (by simp) ?_
     refine AllReadyH.cons (o:=_) rfl (fun K hK=>?_) .nil
     go_simp
     refine hK.out _ _ ?hS32 (fun hHeld=>?rest32)
     case hS32=>((try dsimp only);(exact⟨(PC.out.far (p:=⟨pv,3,none⟩) HNV.out.1 _).cell 0 rfl,(VC.out.set_ 3 _).cell 3 rfl,(QC.out.far (p:=⟨pv,3,none⟩) HNV.out.2 _).cell 0 rfl⟩))
     case' rest32=>(clear hK K;try simp only[PqL,Act.put])
     clear v2 xq pc fz9
     refine wpAnyH_done (by kernel_rfl) ?_ _
     have hEnd:=hHeld.2
     repeat (clear hHeld)
     have oc:zcj (fun k=>k=pv) w (wc.setCell ⟨pv,3,none⟩ (.bool false)):= zcj.set (fun k=>k=pv) (HBw.out.step HBS.out) (p:=pv) (i:=3) rfl _
     have HOC:=zak oc
     have HGC:=zak (HG.out.only oc (fun k hk=>by rw[hk];exact HMV.out))
     have VD:=zak (show Blk (wc.setCell ⟨pv,3,none⟩ (.bool false)) pv 90 _ from VC.out.set_ 3 (.bool false))
     have QD:=zak (show Blk (wc.setCell ⟨pv,3,none⟩ (.bool false)) P 145 _ from QC.out.far (p:=⟨pv,3,none⟩) HNV.out.2 (.bool false))
     obtain⟨We,hWe⟩:∃ W,W=(wc.setCell ⟨pv,3,none⟩ (.bool false)):= ⟨_,rfl⟩
     rw[← hWe] at HOC HGC VD QD ⊢
     clear oc hWe VC PC QC HVb HPb HQb HBw
     have xq:=QD.out.cell 0 (u:= .nilIface) rfl
     go_wp2_with fail
     refine (zm4 _).mono ?_
     rintro e wz ⟨rfl,hbz⟩
     go_wp2_with fail
     rw[HR.out]
     refine⟨rfl,?_,HOC.out.step hbz⟩
     have h:=VD.out.below hbz VD.out.lt
     exact h
   · skip
     have v2:=HVb.out
     unfold vauC at v2
     obtain⟨v2_c0,v2_c1,v2_c2,v2_c3⟩:= zbi v2
     have v2_f:=v2.frozen
     have pc:=HPb.out.cell 0 (u:= .pointer (some ⟨pv,0,none⟩)) rfl
     have xq:=HQb.out.cell 0 (u:= .nilIface) rfl
     go_wp2_with fail
     refine wp_region_held_drew (S:=(fun w'=>w'.cell? ⟨Pv,0,none⟩=some (.pointer (some ⟨pv,0,none⟩))∧ w'.cell? ⟨pv,3,none⟩=some (.bool true)∧ w'.cell? ⟨P,0,none⟩=some (.nilIface))) (by kernel_rfl) ?hS34 (fun hHeld=>?rest34)
     case hS34=>((try dsimp only);(exact⟨pc,v2_c3,xq⟩))
     case' rest34=>skip
     iterate 6 (refine tkN ?_;try simp only[PqL,Act.put])
     iterate 2 (refine tkV ?_;try simp only[PqL,Act.put])
     iterate 3 (refine tkN ?_;try simp only[PqL,Act.put])
     have VC:=zak (show Blk Wb.drew pv 90 (vauC x0 (.slice As ns cs) false true) from HVb.out.below (zb9 (Below.refl Wb.heap.size Wb)) HVb.out.lt)
     have PC:=zak (show Blk Wb.drew Pv 34 #[.pointer (some ⟨pv,0,none⟩)] from HPb.out.below (zb9 (Below.refl Wb.heap.size Wb)) HPb.out.lt)
     have QC:=zak (show Blk Wb.drew P 145 #[.nilIface] from HQb.out.below (zb9 (Below.refl Wb.heap.size Wb)) HQb.out.lt)
     have fz9:=VC.out.frozen
     refine wpAnyH_ready (rs:= [11]) (by kernel_rfl) (by simp) ?_
     refine AllReadyH.cons (o:=_) rfl (fun K hK=>?_) .nil
     go_simp
     refine hK.out _ _ ?hS48 (fun hHeld=>?rest48)
     case hS48=>((try dsimp only);(exact⟨(PC.out.far (p:=⟨pv,3,none⟩) HNV.out.1 _).cell 0 rfl,(VC.out.set_ 3 _).cell 3 rfl,(QC.out.far (p:=⟨pv,3,none⟩) HNV.out.2 _).cell 0 rfl⟩))
     case' rest48=>(clear hK K;try simp only[PqL,Act.put])
     clear v2 xq pc fz9
     refine wpAnyH_done (by kernel_rfl) ?_ _
     have hEnd:=hHeld.2
     repeat (clear hHeld)
     have oc:zcj (fun k=>k=pv) w (Wb.setCell ⟨pv,3,none⟩ (.bool true)).drew:=(zcj.set (fun k=>k=pv) HBw.out (p:=pv) (i:=3) rfl _).drew
     have HOC:=zak oc
     have HGC:=zak (HG.out.only oc (fun k hk=>by rw[hk];exact HMV.out))
     have VD:=zak (show Blk (Wb.setCell ⟨pv,3,none⟩ (.bool true)).drew pv 90 _ from VC.out.set_ 3 (.bool true))
     have QD:=zak (show Blk (Wb.setCell ⟨pv,3,none⟩ (.bool true)).drew P 145 _ from QC.out.far (p:=⟨pv,3,none⟩) HNV.out.2 (.bool true))
     obtain⟨We,hWe⟩:∃ W,W=(Wb.setCell ⟨pv,3,none⟩ (.bool true)).drew:=⟨_,rfl⟩
     rw[← hWe] at HOC HGC VD QD ⊢
     clear oc hWe VC PC QC HVb HPb HQb HBw
     have xq:=QD.out.cell 0 (u:= .nilIface) rfl
     go_wp2_with fail
     refine (zm4 _).mono ?_
     rintro e wz ⟨rfl,hbz⟩
     go_wp2_with fail
     rw[HR.out]
     refine⟨rfl,?_,HOC.out.step hbz⟩
     have h:=VD.out.below hbz VD.out.lt
     exact h
 · have HNZ:=zak h0
   have HC0:Hid (Ch W0 a (endV er) [codeV er] (.iface tt x)):= zak (by
    rcases HU0.out with ⟨h,_⟩ | ⟨_,h⟩
    · exact absurd h h0
    · exact h)
   have HIS:Hid (isT (endV er) offT=decide (er=7)):= zak (by
    unfold endV
    by_cases h7:er=7
    · rw[if_pos h7,h7];decide
    · rw[if_neg h7]
      by_cases h8:er=10∨er=6
      · rw[if_pos h8];simp[isT,h7];decide
      · rw[if_neg h8];simp[isT,h7])
   have HDP:=zak (znb a M (endV er) [codeV er] (.iface tt x) _ (HG.out.below HB0.out) HC0.out (Nat.le_trans HM.out HB0.out.size) (by simp))
   rw[show (([codeV er].length:Nat):Int)=1 from rfl] at HDP
   have x0':=HQ.out.cell 0 (u:= .iface tt x) rfl
   clear h0 HU HU0
   go_enter Tryz.func89,Tryz.ntmps89
   go_wp2_with fail
   rw[← HW0.out,← HP.out]
   go_wp2_with fail
   refine HDP.out.mono ?_
   rintro e Wb ⟨rfl,hb1⟩
   have HB1:=zak (zbd hb1 HB0.out)
   have HBw:=zak (zcj.of_below (F:=fun k=>k=pv) HB1.out)
   have HVb:=zak (HV.out.below HB1.out HV.out.lt)
   have HPb:=zak (HPV.out.below HB1.out HPV.out.lt)
   have HQb:=zak (HQ.out.below hb1 HQ.out.lt)
   have HCb:=zak (HC0.out.below hb1)
   have HNV:Hid (Pv≠pv∧P≠pv):= zak ⟨zm1 HVb.out HPb.out (by decide),Ne.symm hne⟩
   clear hb1 x0' HC0 HDP HB1
   cases off
   · skip
     have v2:=HVb.out
     unfold vauC at v2
     obtain⟨v2_c0,v2_c1,v2_c2,v2_c3⟩:= zbi v2
     have v2_f:=v2.frozen
     have pc:=HPb.out.cell 0 (u:= .pointer (some ⟨pv,0,none⟩)) rfl
     have xq:=HQb.out.cell 0 (u:= .iface tt x) rfl
     go_wp2_with fail
     refine zaj (fun w'=>w'.cell? ⟨Pv,0,none⟩=some (.pointer (some ⟨pv,0,none⟩))∧ w'.cell? ⟨pv,3,none⟩=some (.bool false)∧ w'.cell? ⟨P,0,none⟩=some (.iface tt x)) [0,1,2,3,4,5,6,7,8,9,10] (by kernel_rfl) ?hS50 (fun hHeld=>?rest50)
     case hS50=>((try dsimp only);exact⟨pc,v2_c3,xq⟩)
     case' rest50=>skip
     refine tkT 0 ?_
     try simp only[PqL,Act.put]
     refine tkT 1 ?_
     try simp only[PqL,Act.put]
     refine tkT 2 ?_
     try simp only[PqL,Act.put]
     refine tkT 3 ?_
     try simp only[PqL,Act.put]
     refine tkT 4 ?_
     try simp only[PqL,Act.put]
     refine tkT 5 ?_
     try simp only[PqL,Act.put]
     refine tkT 6 ?_
     try simp only[PqL,Act.put]
     refine zag (i:=7) (o:=_) rfl (by kernel_rfl) (fun K hK=>?_)
     go_simp
     have HSY:=zob a offT (endV er) [codeV er] (.iface tt x) Wb.drew (HCb.out.below (zb9 (Below.refl _ _)))
     rw[show bs offT=(⟨#[116,104,101,32,112,111,119,101,114,32,105,115,32,111,102,102]⟩:ByteArray) from rfl,HIS.out] at HSY
     refine HSY.mono ?_
     clear HSY
     rintro e wc ⟨rfl,hbs⟩
     have hbs':Below Wb.heap.size Wb wc:=⟨hbs.os,hbs.tape,hbs.output,hbs.size,hbs.block⟩
     have HBS:=zak hbs'
     try dsimp only
     refine hK.out _ _ ?hS59 (fun hHeld=>?rest59)
     case hS59=>((try dsimp only);(exact⟨(HBS.out.cell (zal pc)).trans pc,(HBS.out.cell (zal v2_c3)).trans v2_c3,(HBS.out.cell (zal xq)).trans xq⟩))
     case' rest59=>(clear hK K;try simp only[PqL,Act.put])
     clear hbs hbs'
     refine tkT 8 ?_
     try simp only[PqL,Act.put]
     refine tkT 9 ?_
     try simp only[PqL,Act.put]
     refine tkT 10 ?_
     try simp only[PqL,Act.put]
     have VC:=zak (show Blk wc pv 90 (vauC x0 xs odd false) from HVb.out.below HBS.out HVb.out.lt)
     have PC:=zak (show Blk wc Pv 34 #[.pointer (some ⟨pv,0,none⟩)] from HPb.out.below HBS.out HPb.out.lt)
     have QC:=zak (show Blk wc P 145 #[.iface tt x] from HQb.out.below HBS.out HQb.out.lt)
     have fz9:=VC.out.frozen
     refine zah (i:=11) (o:=_) rfl (by kernel_rfl) (by kernel_rfl) (fun K hK=>?_)
     go_simp
     refine hK.out _ _ ?rest64
     case' rest64=>(clear hK K;try simp only[PqL,Act.put])
     clear v2 xq pc fz9
     refine zai (by kernel_rfl) ?_ _
     repeat (clear hHeld)
     have oc:zcj (fun k=>k=pv) w (wc.setCell ⟨pv,3,none⟩ (.bool (decide (er=7)))):= zcj.set (fun k=>k=pv) (HBw.out.step HBS.out) (p:=pv) (i:=3) rfl _
     have HOC:=zak oc
     have HGC:=zak (HG.out.only oc (fun k hk=>by rw[hk];exact HMV.out))
     have VD:=zak (show Blk (wc.setCell ⟨pv,3,none⟩ (.bool (decide (er=7)))) pv 90 _ from VC.out.set_ 3 (.bool (decide (er=7))))
     have QD:=zak (show Blk (wc.setCell ⟨pv,3,none⟩ (.bool (decide (er=7)))) P 145 _ from QC.out.far (p:=⟨pv,3,none⟩) HNV.out.2 (.bool (decide (er=7))))
     have HCD:Hid (Ch (wc.setCell ⟨pv,3,none⟩ (.bool (decide (er=7)))) a (endV er) [codeV er] (.iface tt x)):= zak (Ch.only1 VC.out (by decide) (by decide) (zcj.set (fun k=>k=pv) (zcj.refl _ _) (p:=pv) (i:=3) rfl _) (HCb.out.below HBS.out))
     obtain⟨We,hWe⟩:∃ W,W=(wc.setCell ⟨pv,3,none⟩ (.bool (decide (er=7)))):= ⟨_,rfl⟩
     rw[← hWe] at HOC HGC VD QD HCD ⊢
     clear oc hWe VC PC QC HVb HPb HQb HBw
     have xq:=QD.out.cell 0 (u:= .iface tt x) rfl
     go_wp2_with fail
     refine (zm5 a M (endV er) (codeV er) [] (.iface tt x) _ HGC.out HCD.out).mono ?_
     rintro e wz ⟨rfl,hbz⟩
     go_wp2_with fail
     rw[HR.out]
     refine⟨rfl,?_,HOC.out.step hbz⟩
     have h:=VD.out.below hbz VD.out.lt
     rw[if_neg HNZ.out,if_neg HNZ.out]
     rw[show (false || decide (er=7))=decide (er=7) from by rw[Bool.false_or]]
     exact h
   · skip
     have v2:=HVb.out
     unfold vauC at v2
     obtain⟨v2_c0,v2_c1,v2_c2,v2_c3⟩:= zbi v2
     have v2_f:=v2.frozen
     have pc:=HPb.out.cell 0 (u:= .pointer (some ⟨pv,0,none⟩)) rfl
     have xq:=HQb.out.cell 0 (u:= .iface tt x) rfl
     go_wp2_with fail
     refine wp_region_held_drew (S:=(fun w'=>w'.cell? ⟨Pv,0,none⟩=some (.pointer (some ⟨pv,0,none⟩))∧ w'.cell? ⟨pv,3,none⟩=some (.bool true)∧ w'.cell? ⟨P,0,none⟩=some (.iface tt x))) (by kernel_rfl) ?hS66 (fun hHeld=>?rest66)
     case hS66=>((try dsimp only);(exact⟨pc,v2_c3,xq⟩))
     case' rest66=>skip
     iterate 6 (refine tkN ?_;try simp only[PqL,Act.put])
     iterate 2 (refine tkV ?_;try simp only[PqL,Act.put])
     iterate 3 (refine tkN ?_;try simp only[PqL,Act.put])
     have VC:=zak (show Blk Wb.drew pv 90 (vauC x0 xs odd true) from HVb.out.below (zb9 (Below.refl Wb.heap.size Wb)) HVb.out.lt)
     have PC:=zak (show Blk Wb.drew Pv 34 #[.pointer (some ⟨pv,0,none⟩)] from HPb.out.below (zb9 (Below.refl Wb.heap.size Wb)) HPb.out.lt)
     have QC:=zak (show Blk Wb.drew P 145 #[.iface tt x] from HQb.out.below (zb9 (Below.refl Wb.heap.size Wb)) HQb.out.lt)
     have fz9:=VC.out.frozen
     refine wpAnyH_ready (rs:= [11]) (by kernel_rfl) (by simp) ?_
     refine AllReadyH.cons (o:=_) rfl (fun K hK=>?_) .nil
     go_simp
     refine hK.out _ _ ?hS80 (fun hHeld=>?rest80)
     case hS80=>((try dsimp only);(exact⟨(PC.out.far (p:=⟨pv,3,none⟩) HNV.out.1 _).cell 0 rfl,(VC.out.set_ 3 _).cell 3 rfl,(QC.out.far (p:=⟨pv,3,none⟩) HNV.out.2 _).cell 0 rfl⟩))
     case' rest80=>(clear hK K;try simp only[PqL,Act.put])
     clear v2 xq pc fz9
     refine wpAnyH_done (by kernel_rfl) ?_ _
     have hEnd:=hHeld.2
     repeat (clear hHeld)
     have oc:zcj (fun k=>k=pv) w (Wb.setCell ⟨pv,3,none⟩ (.bool true)).drew:=(zcj.set (fun k=>k=pv) HBw.out (p:=pv) (i:=3) rfl _).drew
     have HOC:=zak oc
     have HGC:=zak (HG.out.only oc (fun k hk=>by rw[hk];exact HMV.out))
     have VD:=zak (show Blk (Wb.setCell ⟨pv,3,none⟩ (.bool true)).drew pv 90 _ from VC.out.set_ 3 (.bool true))
     have QD:=zak (show Blk (Wb.setCell ⟨pv,3,none⟩ (.bool true)).drew P 145 _ from QC.out.far (p:=⟨pv,3,none⟩) HNV.out.2 (.bool true))
     have HCD:Hid (Ch (Wb.setCell ⟨pv,3,none⟩ (.bool true)).drew a (endV er) [codeV er] (.iface tt x)):= zak (Ch.only1 HVb.out (by decide) (by decide) (zcj.set (fun k=>k=pv) (zcj.refl _ _) (p:=pv) (i:=3) rfl _).drew (HCb.out))
     obtain⟨We,hWe⟩:∃ W,W=(Wb.setCell ⟨pv,3,none⟩ (.bool true)).drew:=⟨_,rfl⟩
     rw[← hWe] at HOC HGC VD QD HCD ⊢
     clear oc hWe VC PC QC HVb HPb HQb HBw
     have xq:=QD.out.cell 0 (u:= .iface tt x) rfl
     go_wp2_with fail
     refine (zm5 a M (endV er) (codeV er) [] (.iface tt x) _ HGC.out HCD.out).mono ?_
     rintro e wz ⟨rfl,hbz⟩
     go_wp2_with fail
     rw[HR.out]
     refine⟨rfl,?_,HOC.out.step hbz⟩
     have h:=VD.out.below hbz VD.out.lt
     rw[if_neg HNZ.out,if_neg HNZ.out]
     rw[show (true || decide (er=7))=true from by rfl]
     exact h
end
end Go.Proofs.YtehabbnohoomjaaGreatDoor
