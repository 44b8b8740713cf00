/- None -/
import Derived.Test.YtehabbnohoomjaaGreatDoorP39
import Derived.Test.YtehabbnohoomjaaGreatDoorP41
namespace Go.Proofs.YtehabbnohoomjaaGreatDoor
set_option linter.unusedVariables false
set_option linter.unusedSimpArgs false
set_option linter.unnecessarySimpa false
section
open Go.RowKit
set_option maxRecDepth 20000
set_option maxHeartbeats 8000000
structure RV (w:World) (pr r:Nat) (q:FP) (S:FS) (A:Option Addr) (c:Nat) (FX:Nat→Prop) (As:Option Addr) (ns cs:Nat) (dx:List (Option Addr×Nat)) (X:List SV) (odd off:Bool):Prop where
 blk:Blk w pr 77 #[.pointer (some ⟨r,0,none⟩),.slice As ns cs,.bool odd,.bool off]
 jb:∃ S0,(S.off=false→S0=S)∧ Blk w r 166 (rjS q.p S0 A c S.off).toArray
 fd:RF w q S
 row:OwnSV w FX As ns cs X dx
 prr:pr≠r
 prq: ¬ q.F pr
 rq: ¬ q.F r
 fx:∀ g,FX g→g≠pr∧g≠r∧ ¬ q.F g∧g < w.heap.size
def RunK (J:JS) (S:FS):Prop:=S.off=true∨(J=openJ S∧S.off=false)
section
variable {w w':World} {pr r c ns cs:Nat} {q:FP} {S:FS} {A As:Option Addr} {FX:Nat→Prop} {dx:List (Option Addr×Nat)} {X:List SV} {odd off:Bool}
theorem RV.keep (h:RV w pr r q S A c FX As ns cs dx X odd off) (hk:∀ g,(g=pr∨g=r∨q.F g∨FX g)→ g < w.heap.size→w'.heap[g]? =w.heap[g]?) (hz:w.heap.size≤w'.heap.size):RV w' pr r q S A c FX As ns cs dx X odd off:=by
 obtain⟨S0,h1,h2⟩:= h.jb
 exact⟨(hk pr (.inl rfl) h.blk.lt).trans h.blk,⟨S0,h1,(hk r (.inr (.inl rfl)) h2.lt).trans h2⟩,h.fd.keep (fun g hg hl=>hk g (.inr (.inr (.inl hg))) hl),h.row.keep (fun g hg hl=>hk g (.inr (.inr (.inr hg))) hl),h.prr,h.prq,h.rq,fun g hg=>⟨(h.fx g hg).1,(h.fx g hg).2.1,(h.fx g hg).2.2.1,Nat.lt_of_lt_of_le (h.fx g hg).2.2.2 hz⟩⟩
theorem RV.below (h:RV w pr r q S A c FX As ns cs dx X odd off) (hb:Below w.heap.size w w'):RV w' pr r q S A c FX As ns cs dx X odd off:=h.keep (fun g _ hl=>hb.block g hl) hb.size
theorem RV.only {G:Nat→Prop} (h:RV w pr r q S A c FX As ns cs dx X odd off) (ho:zcj G w w') (hG:∀ g,(g=pr∨g=r∨q.F g∨FX g)→ ¬ G g):RV w' pr r q S A c FX As ns cs dx X odd off:=h.keep (fun g hg hl=>ho.block g hl (hG g hg)) ho.size
theorem zyp (kd:Int) (S0:FS) (b:Value) (w:World) (hB:Blk w r 166 (rjS q.p S0 A c true).toArray) :
 Calls Tryz.prog 146 #[.pointer (some ⟨r,0,none⟩),.int .i64 kd,b] w fun e w'=>e= .returned (.int .i64 7)∧ Blk w' r 166 (rjS q.p S0 A c true).toArray∧zcj (fun g=>g=r) w w':=by
 have HB:=zak hB
 unfold rjS rjC at hB
 have c6:=hB.cell 6 (u:= .bool true) rfl
 have f6:=hB.frozen 6
 clear hB
 go_enter Tryz.func146,Tryz.ntmps146
 go_wp2_with fail
 go_ret
 exact⟨rfl,zhz HB.out 6 (.bool true),zhd _ _⟩
theorem zyq {S:FS} {kd:Int} {d:List UInt8} (hl:S.b.length=1024 * S.wear.length) (hoff:S.off=false) (hd:d.length≤960) (hr:rightR kd (numJ (openJ S)+1) d.length=0):(appJ (openJ S) S kd d).2.1.off=decide ((appJ (openJ S) S kd d).2.2=7):= by
 have hp:∀ (l:List UInt8) (T:FS) (k:Nat),T.off=false→(progF T k l).1.off=decide ((progF T k l).2=7):= by
  intro l
  induction l with
  | nil=>intro T k h;rw[progF];exact h
  | cons x l ih=>
    intro T k h
    rw[progF]
    split
    · rfl
    · exact ih _ _ h
 by_cases hm:numJ (openJ S)=4294967295
 · have:(appJ (openJ S) S kd d).2=(S,6):= by
    unfold appJ
    rw[if_neg (by rw[show (openJ S).dead=false from rfl,hoff];decide),if_pos hm]
   rw[this]
   exact hoff
 · rcases zk9 (S:=S) (m:=d.length) with ⟨h1,_⟩ | ⟨i,er,h1,_⟩
   · have:(appJ (openJ S) S kd d).2=(S,10):= by
      unfold appJ
      rw[if_neg (by rw[show (openJ S).dead=false from rfl,hoff];decide),if_neg hm,if_neg (by rw[hr];decide),h1]
      rfl
     rw[this]
     exact hoff
   · obtain⟨ha,hb⟩:= zlc hoff hm hr h1
     have hi:=(zj3 hl h1 hd).1
     by_cases hbt:er=true∧S.ahead=0
     · rw[ha hbt]
       unfold eraseF
       rw[if_pos hbt.2]
       rfl
     · rw[hb hbt]
       refine hp _ _ _ ?_
       unfold layS
       split
       · rename_i he
         exact ((zlb S i hl hi).2.2.2 (fun h0=>hbt ⟨he,h0⟩)).2.trans hoff
       · exact hoff
theorem RV.end_ {w1 w2 w3:World} {S2:FS} {A2 As':Option Addr} {c2 ns' cs':Nat} {FX':Nat→Prop} {dx':List (Option Addr×Nat)} {X':List SV} {odd' off':Bool} (h:RV w1 pr r q S A c FX As ns cs dx X odd off) (ho:zcj (fun g=>g=r∨q.F g) w1 w2) (hp:zcj (fun g=>g=pr) w2 w3)
 (hB:Blk w3 pr 77 #[.pointer (some ⟨r,0,none⟩),.slice As' ns' cs',.bool odd',.bool off']) (hj:∃ S0,(S2.off=false→S0=S2)∧ Blk w2 r 166 (rjS q.p S0 A2 c2 S2.off).toArray) (hf:RF w2 q S2) (hrow:OwnSV w1 FX' As' ns' cs' X' dx') (hfx:∀ g,FX' g→g≠pr∧g≠r∧ ¬ q.F g∧g < w1.heap.size) :
 RV w3 pr r q S2 A2 c2 FX' As' ns' cs' dx' X' odd' off'∧zcj (fun g=>g=pr∨g=r∨q.F g) w1 w3:=by
 have hO:zcj (fun g=>g=pr∨g=r∨q.F g) w1 w3:=(ho.mono (fun _ _ h=> .inr h)).trans hp (fun _ _ h=> .inl h)
 obtain⟨S0,h1,h2⟩:= hj
 exact⟨⟨hB,⟨S0,h1,(hp.block r h2.lt (fun e=>h.prr e.symm)).trans h2⟩,hf.keep (fun g hg hl=>hp.block g hl (fun e=>h.prq (e ▸ hg))),hrow.keep (fun g hg hl=>hO.block g hl (fun hx=>hx.elim (hfx g hg).1 (fun hx=>hx.elim (hfx g hg).2.1 (hfx g hg).2.2.1))),h.prr,h.prq,h.rq,fun g hg=>⟨(hfx g hg).1,(hfx g hg).2.1,(hfx g hg).2.2.1,Nat.lt_of_lt_of_le (hfx g hg).2.2.2 hO.size⟩⟩,hO⟩
def RKeepR (pr r:Nat) (q:FP) (FX Fl:Nat→Prop) (X l:List SV) (odd off:Bool) (R:JS×FS×Int) (w:World) (e:Ending) (w':World):Prop:=
 ∃ A' c' FX' As' ns' cs' dx',e= .returned (.int .u32 (codeV R.2.2:Nat))∧ RV w' pr r q R.2.1 A' c' FX' As' ns' cs' dx' (if R.2.2=0 then l else X) (if R.2.2=0 then false else odd) (off || decide (R.2.2=7))∧ (∀ g,FX' g→FX g∨Fl g)∧ zcj (fun g=>g=pr∨g=r∨q.F g) w w'
theorem zyr {L:List Ent} (hr:∀ E ∈ L,rightE E=0) {J:JS} {R:JS×FS×Int} {kd:Int} {l:List SV} {Fl:Nat→Prop} {Al:Option Addr} {nl cl:Nat} {dl:List (Option Addr×Nat)} (w:World) (h:RV w pr r q S A c FX As ns cs dx X odd off) (hrun:RunK J S) (hops:S.ops+2000 < 4611686018427387904) (hg:GoodX L l) (hkd:kd=1∨(kd=2∧l= [])) (hW:WrP J S kd l R) (hrow:OwnSV w Fl Al nl cl l dl) (hnl:nl≤1000) (hfl:∀ g,Fl g→g≠pr∧g≠r∧ ¬ q.F g∧g < w.heap.size) :
 Calls Tryz.prog 114 #[.pointer (some ⟨pr,0,none⟩),.int .i64 kd,.slice Al nl cl] w (RKeepR pr r q FX Fl X l odd off R w):= by
 obtain⟨b,er,hB,hc⟩:= hW
 obtain⟨h03,hd960⟩:= zxo hr hg hB
 have HBD:=zak hB
 have HBU:=zak (zyd Al nl cl l w hrow.hn hrow.own.le (by omega) hrow.slV (zxw hg))
 have HH:=zak h
 have HROW:=zak hrow
 have HFL:=zak hfl
 have c0:=h.blk.cell 0 (u:= .pointer (some ⟨r,0,none⟩)) rfl
 obtain⟨e9,he9⟩:∃ e,e=R.2.2:=⟨_,rfl⟩
 obtain⟨cd,hcd⟩:∃ x:Int,x=((codeV e9:Nat):Int):= ⟨_,rfl⟩
 obtain⟨P,hP⟩:∃ P,P=RKeepR pr r q FX Fl X l odd off R w:=⟨_,rfl⟩
 rw[← hP]
 have hEnd0:e9=0→ ∀ (w1 w2:World) (A2:Option Addr) (c2:Nat),Below w.heap.size w w1→RV w1 pr r q S A c FX As ns cs dx X odd off→zcj (fun g=>g=r∨q.F g) w1 w2→(∃ S0,(R.2.1.off=false→S0=R.2.1)∧ Blk w2 r 166 (rjS q.p S0 A2 c2 R.2.1.off).toArray)→ RF w2 q R.2.1→P (.returned (.int .u32 0)) ((w2.setCell ⟨pr,1,none⟩ (.slice Al nl cl)).setCell ⟨pr,2,none⟩ (.bool false)):= by
  intro h0 w1 w2 A2 c2 hb h1 ho hj hf
  have hB2:=(ho.block pr h1.blk.lt (fun hx=>hx.elim h1.prr h1.prq)).trans h1.blk
  obtain⟨k1,k2⟩:= RV.end_ (X':=l) (odd':=false) (off':=off) h1 ho (zcj.set (fun g=>g=pr) (zcj.set (fun g=>g=pr) (zcj.refl _ _) rfl _) rfl _:zcj (fun g=>g=pr) w2 ((w2.setCell ⟨pr,1,none⟩ (.slice Al nl cl)).setCell ⟨pr,2,none⟩ (.bool false))) ((Blk.set_ hB2 1 (.slice Al nl cl)).set_ 2 (.bool false)) hj hf (hrow.below hb) (fun g hg=>⟨(hfl g hg).1,(hfl g hg).2.1,(hfl g hg).2.2.1,Nat.lt_of_lt_of_le (hfl g hg).2.2.2 hb.size⟩)
  rw[hP]
  refine⟨A2,c2,Fl,Al,nl,cl,dl,by rw[← he9,h0];rfl,?_,fun g hg=> .inr hg,(zcj.of_below hb).trans k2 (fun _ _ h=>h)⟩
  rw[← he9,h0,if_pos rfl,if_pos rfl]
  simpa using k1
 have hEnd7:e9=7→ ∀ (w1 w2:World) (A2:Option Addr) (c2:Nat),Below w.heap.size w w1→RV w1 pr r q S A c FX As ns cs dx X odd off→zcj (fun g=>g=r∨q.F g) w1 w2→(∃ S0,(R.2.1.off=false→S0=R.2.1)∧ Blk w2 r 166 (rjS q.p S0 A2 c2 R.2.1.off).toArray)→ RF w2 q R.2.1→P (.returned (.int .u32 101056512)) (w2.setCell ⟨pr,3,none⟩ (.bool true)):= by
  intro h0 w1 w2 A2 c2 hb h1 ho hj hf
  have hB2:=(ho.block pr h1.blk.lt (fun hx=>hx.elim h1.prr h1.prq)).trans h1.blk
  obtain⟨k1,k2⟩:= RV.end_ (X':=X) (odd':=odd) (off':=true) h1 ho (zcj.set (fun g=>g=pr) (zcj.refl _ _) rfl _:zcj (fun g=>g=pr) w2 (w2.setCell ⟨pr,3,none⟩ (.bool true))) (Blk.set_ hB2 3 (.bool true)) hj hf h1.row h1.fx
  rw[hP]
  refine⟨A2,c2,FX,As,ns,cs,dx,by rw[← he9,h0];rfl,?_,fun g hg=> .inl hg,(zcj.of_below hb).trans k2 (fun _ _ h=>h)⟩
  rw[← he9,h0,if_neg (by decide),if_neg (by decide),show (off || decide ((7:Int)=7))=true by simp]
  exact k1
 have hEndx:e9≠0→e9≠7→ ∀ (w1 w2:World) (A2:Option Addr) (c2:Nat),Below w.heap.size w w1→RV w1 pr r q S A c FX As ns cs dx X odd off→zcj (fun g=>g=r∨q.F g) w1 w2→(∃ S0,(R.2.1.off=false→S0=R.2.1)∧ Blk w2 r 166 (rjS q.p S0 A2 c2 R.2.1.off).toArray)→ RF w2 q R.2.1→P (.returned (.int .u32 cd)) w2:=by
  intro h0 h7 w1 w2 A2 c2 hb h1 ho hj hf
  have hB2:=(ho.block pr h1.blk.lt (fun hx=>hx.elim h1.prr h1.prq)).trans h1.blk
  obtain⟨k1,k2⟩:= RV.end_ (X':=X) (odd':=odd) (off':=off) h1 ho (zcj.refl _ _:zcj (fun g=>g=pr) w2 w2) hB2 hj hf h1.row h1.fx
  rw[hP]
  refine⟨A2,c2,FX,As,ns,cs,dx,by rw[← he9,hcd],?_,fun g hg=> .inl hg,(zcj.of_below hb).trans k2 (fun _ _ h=>h)⟩
  rw[← he9,if_neg h0,if_neg h0,show decide (e9=7)=false by simp[h7],Bool.or_false]
  exact k1
 have HE0:=zak hEnd0
 have HE7:=zak hEnd7
 have HEX:=zak hEndx
 have HCD:=zak hcd
 clear hEnd0 hEnd7 hEndx hP hB hrow hfl
 rcases h03 with h0 | h3
 · subst h0
   have hR:R=appJ J S kd b:=by
    rcases hc with ⟨h,_⟩ | ⟨_,h⟩
    · exact absurd rfl h
    · exact h
   have hbk:kd=1∨(kd=2∧b= []):= by
    rcases hkd with h | ⟨h,rfl⟩
    · exact .inl h
    · exact .inr ⟨h,(zw9 HBD.out).2.2⟩
   have hrr:∀ n,rightR kd (n+1) b.length=0:=by
    intro n
    unfold rightR
    rcases hbk with rfl | ⟨rfl,rfl⟩
    · rw[if_neg (by omega),if_neg (by omega),if_neg (by decide),if_neg (by omega)]
    · rw[if_neg (by omega),if_pos ⟨rfl,rfl⟩]
   by_cases hoff:S.off=true
   · have hR2:R.2=(S,7):= by
      rw[hR]
      unfold appJ
      rw[if_pos (by rw[hoff];simp)]
     have hR21:R.2.1=S:=by rw[hR2]
     rw[hR2] at he9
     have HE:=zak (HE7.out he9)
     rw[hR21] at HE
     have HOF:=zak hoff
     clear hR hR2 hoff hrun h HE0 HE7 HEX hR21 he9 hcd hrr hbk
     go_enter Tryz.func114,Tryz.ntmps114
     go_wp2_with fail
     refine HBU.out.mono ?_
     rintro e w1 ⟨A1,n1,c1,b1,er1,rfl,hO1,hB1,hb1⟩
     obtain⟨rfl,rfl⟩:= zn5 hB1 HBD.out
     have HH1:=zak (HH.out.below hb1)
     have HB1:=zak hb1
     have d0:=HH1.out.blk.cell 0 (u:= .pointer (some ⟨r,0,none⟩)) rfl
     obtain⟨S0,hs0,hjb⟩:= HH1.out.jb
     rw[HOF.out] at hjb
     have HAP:=zak (zyp (q:=q) (A:=A) (c:=c) kd S0 (.slice A1 n1 c1) w1 hjb)
     have HS0:=zak hs0
     clear hO1 hB1 hb1 c0 hjb hs0
     go_wp2_with fail
     refine HAP.out.mono ?_
     rintro e w2 ⟨rfl,hj2,ho2⟩
     have hp2:Blk w2 pr 77 #[.pointer (some ⟨r,0,none⟩),.slice As ns cs,.bool odd,.bool off]:= (ho2.block pr HH1.out.blk.lt HH1.out.prr).trans HH1.out.blk
     have e3:=hp2.frozen 3
     have e3':=hp2.cell 3 (u:= .bool off) rfl
     clear hp2
     have HFF:=zak (HE.out w1 w2 A c HB1.out HH1.out (ho2.mono (fun _ _ h=> .inl h)) ⟨S0,HS0.out,by rw[HOF.out];exact hj2⟩ (HH1.out.fd.only ho2 (fun g hg e=>HH1.out.rq (e ▸ hg))))
     clear hj2 ho2
     go_wp2_with fail
     exact HFF.out
   · have hoff:S.off=false:=by simpa using hoff
     have hJ:J=openJ S:=hrun.elim (fun h=>by rw[hoff] at h;cases h) (fun h=>h.1)
     rw[hJ] at hR
     have hcode:=zx5 (S:=S) hd960 hbk
     have hOFF:=zyq h.fd.fit.len hoff hd960 (hrr (numJ (openJ S)))
     rw[← hR,← he9] at hOFF hcode
     have hAP0:∀ w1 A1 n1 c1,RV w1 pr r q S A c FX As ns cs dx X odd off→n1=b.length→Sl w1 A1 (b.map bv)→ Calls Tryz.prog 146 #[.pointer (some ⟨r,0,none⟩),.int .i64 kd,.slice A1 n1 c1] w1 (RAppX q r S A c R.2 w1):= by
      intro w1 A1 n1 c1 hv hn1 hs1
      obtain⟨S0,hs0,hjb⟩:= hv.jb
      rw[hs0 hoff,hoff] at hjb
      have:=zld kd q S r A c A1 n1 c1 b w1 hv.fd hjb hv.rq hoff hn1 (by omega) hs1 hops
      rw[← hR] at this
      exact this
     have HAP:=zak hAP0
     have hR22:=he9.symm
     have HOF:=zak hoff
     clear hR hoff hrun h he9 hcd hrr hbk hAP0 hJ hc hops
     rcases hcode with rfl | rfl | rfl | rfl
     · have HE:=zak (HE0.out rfl)
       have HOO:Hid (R.2.1.off=false):= zak (by rw[hOFF];rfl)
       have HR22:=zak hR22
       clear HE0 HE7 HEX hOFF hR22 HCD
       go_enter Tryz.func114,Tryz.ntmps114
       go_wp2_with fail
       refine HBU.out.mono ?_
       rintro e w1 ⟨A1,n1,c1,b1,er1,rfl,hO1,hB1,hb1⟩
       obtain⟨rfl,rfl⟩:= zn5 hB1 HBD.out
       have HH1:=zak (HH.out.below hb1)
       have HB1:=zak hb1
       have d0:=HH1.out.blk.cell 0 (u:= .pointer (some ⟨r,0,none⟩)) rfl
       have HAP1:=zak (HAP.out w1 A1 n1 c1 HH1.out hO1.hn hO1.sl)
       clear hO1 hB1 hb1 c0
       go_wp2_with fail
       refine HAP1.out.mono ?_
       rintro e w2 ⟨rfl,hf2,ho2,hj2⟩
       have hp2:Blk w2 pr 77 #[.pointer (some ⟨r,0,none⟩),.slice As ns cs,.bool odd,.bool off]:= (ho2.block pr HH1.out.blk.lt (fun hx=>hx.elim HH1.out.prr HH1.out.prq)).trans HH1.out.blk
       have f1:=hp2.frozen 1
       have f2:=hp2.frozen 2
       have f3:=hp2.frozen 3
       have f1':=hp2.cell 1 (u:= .slice As ns cs) rfl
       have f2':=hp2.cell 2 (u:= .bool odd) rfl
       have f3':=hp2.cell 3 (u:= .bool off) rfl
       have hjx:∃ A2 c2,∃ S0,(R.2.1.off=false→S0=R.2.1)∧ Blk w2 r 166 (rjS q.p S0 A2 c2 R.2.1.off).toArray:=by
        rcases hj2 with ⟨k1,A2,c2,k2⟩ | ⟨k1,_⟩ | ⟨k1,_⟩
        · exact⟨A2,c2,R.2.1,fun _=>rfl,by rw[HOO.out];exact k2⟩
        · rw[HR22.out] at k1;exact absurd k1 (by decide)
        · exact absurd HR22.out k1
       obtain⟨A2,c2,hjx⟩:= hjx
       have HFF:=zak (HE.out w1 w2 A2 c2 HB1.out HH1.out ho2 hjx hf2)
       rw[HR22.out]
       clear hf2 ho2 hj2 hp2 hjx
       go_wp2_with fail
       exact HFF.out
     · have HE:=zak (HEX.out (by decide) (by decide))
       have HOO:Hid (R.2.1.off=false):= zak (by rw[hOFF];rfl)
       have HR22:=zak hR22
       have hcd2:cd=101056512:=by rw[HCD.out];rfl
       subst hcd2
       clear HE0 HE7 HEX hOFF hR22 HCD
       go_enter Tryz.func114,Tryz.ntmps114
       go_wp2_with fail
       refine HBU.out.mono ?_
       rintro e w1 ⟨A1,n1,c1,b1,er1,rfl,hO1,hB1,hb1⟩
       obtain⟨rfl,rfl⟩:= zn5 hB1 HBD.out
       have HH1:=zak (HH.out.below hb1)
       have HB1:=zak hb1
       have d0:=HH1.out.blk.cell 0 (u:= .pointer (some ⟨r,0,none⟩)) rfl
       have HAP1:=zak (HAP.out w1 A1 n1 c1 HH1.out hO1.hn hO1.sl)
       clear hO1 hB1 hb1 c0
       go_wp2_with fail
       refine HAP1.out.mono ?_
       rintro e w2 ⟨rfl,hf2,ho2,hj2⟩
       have hp2:Blk w2 pr 77 #[.pointer (some ⟨r,0,none⟩),.slice As ns cs,.bool odd,.bool off]:= (ho2.block pr HH1.out.blk.lt (fun hx=>hx.elim HH1.out.prr HH1.out.prq)).trans HH1.out.blk
       have f1:=hp2.frozen 1
       have f2:=hp2.frozen 2
       have f3:=hp2.frozen 3
       have f1':=hp2.cell 1 (u:= .slice As ns cs) rfl
       have f2':=hp2.cell 2 (u:= .bool odd) rfl
       have f3':=hp2.cell 3 (u:= .bool off) rfl
       have hjx:∃ A2 c2,∃ S0,(R.2.1.off=false→S0=R.2.1)∧ Blk w2 r 166 (rjS q.p S0 A2 c2 R.2.1.off).toArray:=by
        rcases hj2 with ⟨k1,_⟩ | ⟨k1,_⟩ | ⟨_,_,k3,k4⟩
        · rw[HR22.out] at k1;exact absurd k1 (by decide)
        · rw[HR22.out] at k1;exact absurd k1 (by decide)
        · exact⟨A,c,R.2.1,fun _=>rfl,by rw[k3,HOF.out];exact k4⟩
       obtain⟨A2,c2,hjx⟩:= hjx
       have HFF:=zak (HE.out w1 w2 A2 c2 HB1.out HH1.out ho2 hjx hf2)
       rw[HR22.out]
       clear hf2 ho2 hj2 hp2 hjx
       go_wp2_with fail
       exact HFF.out
     · have HE:=zak (HE7.out rfl)
       have HOO:Hid (R.2.1.off=true):= zak (by rw[hOFF];rfl)
       have HR22:=zak hR22
       clear HE0 HE7 HEX hOFF hR22 HCD
       go_enter Tryz.func114,Tryz.ntmps114
       go_wp2_with fail
       refine HBU.out.mono ?_
       rintro e w1 ⟨A1,n1,c1,b1,er1,rfl,hO1,hB1,hb1⟩
       obtain⟨rfl,rfl⟩:= zn5 hB1 HBD.out
       have HH1:=zak (HH.out.below hb1)
       have HB1:=zak hb1
       have d0:=HH1.out.blk.cell 0 (u:= .pointer (some ⟨r,0,none⟩)) rfl
       have HAP1:=zak (HAP.out w1 A1 n1 c1 HH1.out hO1.hn hO1.sl)
       clear hO1 hB1 hb1 c0
       go_wp2_with fail
       refine HAP1.out.mono ?_
       rintro e w2 ⟨rfl,hf2,ho2,hj2⟩
       have hp2:Blk w2 pr 77 #[.pointer (some ⟨r,0,none⟩),.slice As ns cs,.bool odd,.bool off]:= (ho2.block pr HH1.out.blk.lt (fun hx=>hx.elim HH1.out.prr HH1.out.prq)).trans HH1.out.blk
       have f1:=hp2.frozen 1
       have f2:=hp2.frozen 2
       have f3:=hp2.frozen 3
       have f1':=hp2.cell 1 (u:= .slice As ns cs) rfl
       have f2':=hp2.cell 2 (u:= .bool odd) rfl
       have f3':=hp2.cell 3 (u:= .bool off) rfl
       have hjx:∃ A2 c2,∃ S0,(R.2.1.off=false→S0=R.2.1)∧ Blk w2 r 166 (rjS q.p S0 A2 c2 R.2.1.off).toArray:=by
        rcases hj2 with ⟨k1,_⟩ | ⟨k1,k2⟩ | ⟨_,k1,_⟩
        · rw[HR22.out] at k1;exact absurd k1 (by decide)
        · exact⟨A,c,S,fun h=>(by rw[HOO.out] at h;cases h),by rw[HOO.out];exact k2⟩
        · exact absurd HR22.out k1
       obtain⟨A2,c2,hjx⟩:= hjx
       have HFF:=zak (HE.out w1 w2 A2 c2 HB1.out HH1.out ho2 hjx hf2)
       rw[HR22.out]
       clear hf2 ho2 hj2 hp2 hjx
       go_wp2_with fail
       exact HFF.out
     · have HE:=zak (HEX.out (by decide) (by decide))
       have HOO:Hid (R.2.1.off=false):= zak (by rw[hOFF];rfl)
       have HR22:=zak hR22
       have hcd2:cd=101056512:=by rw[HCD.out];rfl
       subst hcd2
       clear HE0 HE7 HEX hOFF hR22 HCD
       go_enter Tryz.func114,Tryz.ntmps114
       go_wp2_with fail
       refine HBU.out.mono ?_
       rintro e w1 ⟨A1,n1,c1,b1,er1,rfl,hO1,hB1,hb1⟩
       obtain⟨rfl,rfl⟩:= zn5 hB1 HBD.out
       have HH1:=zak (HH.out.below hb1)
       have HB1:=zak hb1
       have d0:=HH1.out.blk.cell 0 (u:= .pointer (some ⟨r,0,none⟩)) rfl
       have HAP1:=zak (HAP.out w1 A1 n1 c1 HH1.out hO1.hn hO1.sl)
       clear hO1 hB1 hb1 c0
       go_wp2_with fail
       refine HAP1.out.mono ?_
       rintro e w2 ⟨rfl,hf2,ho2,hj2⟩
       have hp2:Blk w2 pr 77 #[.pointer (some ⟨r,0,none⟩),.slice As ns cs,.bool odd,.bool off]:= (ho2.block pr HH1.out.blk.lt (fun hx=>hx.elim HH1.out.prr HH1.out.prq)).trans HH1.out.blk
       have f1:=hp2.frozen 1
       have f2:=hp2.frozen 2
       have f3:=hp2.frozen 3
       have f1':=hp2.cell 1 (u:= .slice As ns cs) rfl
       have f2':=hp2.cell 2 (u:= .bool odd) rfl
       have f3':=hp2.cell 3 (u:= .bool off) rfl
       have hjx:∃ A2 c2,∃ S0,(R.2.1.off=false→S0=R.2.1)∧ Blk w2 r 166 (rjS q.p S0 A2 c2 R.2.1.off).toArray:=by
        rcases hj2 with ⟨k1,_⟩ | ⟨k1,_⟩ | ⟨_,_,k3,k4⟩
        · rw[HR22.out] at k1;exact absurd k1 (by decide)
        · rw[HR22.out] at k1;exact absurd k1 (by decide)
        · exact⟨A,c,R.2.1,fun _=>rfl,by rw[k3,HOF.out];exact k4⟩
       obtain⟨A2,c2,hjx⟩:= hjx
       have HFF:=zak (HE.out w1 w2 A2 c2 HB1.out HH1.out ho2 hjx hf2)
       rw[HR22.out]
       clear hf2 ho2 hj2 hp2 hjx
       go_wp2_with fail
       exact HFF.out
 · subst h3
   have hR:R=(J,S,3):= by
    rcases hc with ⟨_,h⟩ | ⟨h,_⟩
    · exact h
    · cases h
   have h9:e9=3:=by rw[he9,hR]
   subst h9
   have hR21:R.2.1=S:=by rw[hR]
   have HEX2:=HEX.out (by decide) (by decide)
   rw[hR21] at HEX2
   have hcd':cd=84148229:=by rw[hcd];rfl
   subst hcd'
   have HF:=zak HEX2
   clear hR hrun h HE0 HE7 HEX HEX2 hR21 he9 hcd hc
   go_enter Tryz.func114,Tryz.ntmps114
   go_wp2_with fail
   refine HBU.out.mono ?_
   rintro e w1 ⟨A1,n1,c1,b1,er1,rfl,hO1,hB1,hb1⟩
   obtain⟨rfl,rfl⟩:= zn5 hB1 HBD.out
   have HFF:=zak (HF.out w1 w1 A c hb1 (HH.out.below hb1) (zcj.refl _ _) (HH.out.below hb1).jb (HH.out.below hb1).fd)
   clear hO1 hB1 hb1
   go_wp2_with fail
   exact HFF.out
end
end
section
open Go.RowKit
set_option maxRecDepth 20000
set_option maxHeartbeats 8000000
def RStoR (pr r:Nat) (q:FP) (FX:Nat→Prop) (X l:List SV) (odd off:Bool) (R:JS×FS×Int) (w:World) (e:Ending) (w':World):Prop:=
 ∃ A' c' FX' As' ns' cs' dx',e= .returned (.int .u32 (codeV R.2.2:Nat))∧ RV w' pr r q R.2.1 A' c' FX' As' ns' cs' dx' (if R.2.2=0 then l else X) (if R.2.2=0 then false else odd) (off || decide (R.2.2=7))∧ (∀ g,FX' g→FX g∨(w.heap.size≤g∧g < w'.heap.size))∧ zcj (fun g=>g=pr∨g=r∨q.F g) w w'
theorem zys {pr r:Nat} {q:FP} {FX Fl:Nat→Prop} {X l:List SV} {odd off:Bool} {R:JS×FS×Int} {w w1 w':World} {e:Ending} (hb:Below w.heap.size w w1) (hl:∀ g,Fl g→w.heap.size≤g∧g < w1.heap.size) (h:RKeepR pr r q FX Fl X l odd off R w1 e w'):RStoR pr r q FX X l odd off R w e w':=by
 obtain⟨A',c',FX',As',ns',cs',dx',h1,h2,h3,h4⟩:= h
 have hz:=h4.size
 refine⟨A',c',FX',As',ns',cs',dx',h1,h2,fun g hg=>(h3 g hg).imp id (fun k=>?_),(zcj.of_below hb).trans h4 (fun _ _ h=>h)⟩
 have:=hl g k
 exact⟨this.1,by omega⟩
section
variable {pr r c ns cs:Nat} {q:FP} {S:FS} {A As:Option Addr} {FX:Nat→Prop} {dx:List (Option Addr×Nat)} {X:List SV} {odd off:Bool}
theorem RV.fresh {w w1:World} (h:RV w pr r q S A c FX As ns cs dx X odd off) {g:Nat} (hg:w.heap.size≤g∧g < w1.heap.size):g≠pr∧g≠r∧ ¬ q.F g∧g < w1.heap.size:=by
 obtain⟨S0,_,h2⟩:= h.jb
 have h1:=h.blk.lt
 have h3:=h2.lt
 exact⟨by omega,by omega,fun hx=>by have:=h.fd.lt g hx;omega,hg.2⟩
theorem zyt (gr:Int) (p:Value) (w:World) (h1: ¬ (1≤gr∧gr≤4)):Calls Tryz.prog 70 #[.pointer (some ⟨pr,0,none⟩),p,.int .i64 gr] w fun e w'=>e= .returned (.int .u32 101253168)∧ w=w':=by
 by_cases h2:gr < 1
 · go_enter Tryz.func70,Tryz.ntmps70
   go_wp2_with fail
   go_ret
   exact⟨rfl,rfl⟩
 · have h4:4 < gr:=by omega
   go_enter Tryz.func70,Tryz.ntmps70
   go_wp2_with fail
   go_ret
   exact⟨rfl,rfl⟩
theorem zyu (gr:Int) (w:World) (h1: ¬ (1≤gr∧gr≤4)):Calls Tryz.prog 71 #[.pointer (some ⟨pr,0,none⟩),.int .i64 gr] w fun e w'=>e= .returned (.int .u32 101253168)∧ w=w':=by
 by_cases h2:gr < 1
 · go_enter Tryz.func71,Tryz.ntmps71
   go_wp2_with fail
   go_ret
   exact⟨rfl,rfl⟩
 · have h4:4 < gr:=by omega
   go_enter Tryz.func71,Tryz.ntmps71
   go_wp2_with fail
   go_ret
   exact⟨rfl,rfl⟩
theorem zyv {L:List Ent} (hs:SortedE L) (hr:∀ E ∈ L,rightE E=0) {V:List (List UInt8)} (hv:ValsP L V) (hl200:L.length≤200) {J:JS} {R:JS×FS×Int} {gr:Int} {Ft:Nat→Prop} {pt nt clt cvt:Nat} {Al Avt:Option Addr} {dt et:List (Option Addr×Nat)} (w:World) (h:RV w pr r q S A c FX As ns cs dx X odd off) (hX:GoodX L X)
 (hD:DB 112 w Ft pt Al nt clt Avt cvt L V dt et) (hnt:nt≤1000) (h1:1≤gr∧gr≤4) (hrun:RunK J S) (hops:S.ops+2000 < 4611686018427387904) (hW:WrP J S 1 (joinV (dropL X gr) (ofV L V gr)) R) :
 Calls Tryz.prog 70 #[.pointer (some ⟨pr,0,none⟩),.pointer (some ⟨pt,0,none⟩),.int .i64 gr] w (RStoR pr r q FX X (joinV (dropL X gr) (ofV L V gr)) odd off R w):= by
 have HH:=zak h
 have HD:=zak hD
 have HGD:=zak (zxk hX gr)
 have HGO:=zak (zxj hs hv gr)
 have hgl:ns≤200:=by
  have:=zxs hs hX.1 (fun v hv=>by
   obtain⟨j,E,h1,_,_,h5,h6⟩:= hX.2 v hv
   exact⟨j,E,h1,h5,h6⟩)
  rw[h.row.hn];omega
 have HDR:=zak (fun W (hb:Below w.heap.size w W)=> zx9 As ns cs X gr W h.row.hn (by omega) (h.row.below hb).slV (zxw hX) (zxu hr hX))
 have HOF:=zak (fun W (hb:Below w.heap.size w W)=> zya gr W (hD.below hb) hnt (zxv hr))
 have HJO:=zak (fun W A1 n1 c1 A2 n2 c2 (k1:n1=(dropL X gr).length) (k2:SlV W A1 (dropL X gr)) (k3:n2=(ofV L V gr).length) (k4:SlV W A2 (ofV L V gr))=> zyo A1 n1 c1 (dropL X gr) A2 n2 c2 (ofV L V gr) W k1 k2 k3 k4 (zxt hs (zxk hX gr) hl200) (zxt hs (zxj hs hv gr) hl200) (zxh (zxk hX gr).1) (zxh (zxj hs hv gr).1))
 obtain⟨LW,hLW⟩:∃ l,l=joinV (dropL X gr) (ofV L V gr):= ⟨_,rfl⟩
 rw[← hLW] at hW ⊢
 have hGW:GoodX L LW:=by rw[hLW];exact zxl (zxk hX gr) (zxj hs hv gr)
 have HLW:=zak hLW
 have hlw:LW.length≤1000:=by
  have:=zxs hs hGW.1 (fun v hv=>by
   obtain⟨j,E,h1,_,_,h5,h6⟩:= hGW.2 v hv
   exact⟨j,E,h1,h5,h6⟩)
  omega
 have HKP:=zak (fun (W:World) (hb:Below w.heap.size w W) (Fl:Nat→Prop) (Al nl cl dl) (hrow:OwnSV W Fl Al nl cl LW dl) (hfl:∀ g,Fl g→w.heap.size≤g∧g < W.heap.size)=> (zyr hr (kd:=1) W (h.below hb) hrun hops hGW (.inl rfl) hW hrow (by rw[hrow.hn];exact hlw) (fun g hg=>h.fresh (hfl g hg))).mono (fun e w' hk=>zys hb hfl hk))
 have c1:=h.blk.cell 1 (u:= .slice As ns cs) rfl
 have g1: ¬ gr < 1:=by omega
 have g4: ¬ 4 < gr:=by omega
 obtain⟨P,hP⟩:∃ P,P=RStoR pr r q FX X LW odd off R w:=⟨_,rfl⟩
 have HKP2:Hid (∀ (W:World) (_:Below w.heap.size w W) (Fl:Nat→Prop) (Al:Option Addr) (nl cl:Nat) (dl:List (Option Addr×Nat)) (_:OwnSV W Fl Al nl cl LW dl) (_:∀ g,Fl g→w.heap.size≤g∧g < W.heap.size),Calls Tryz.prog 114 #[.pointer (some ⟨pr,0,none⟩),.int .i64 1,.slice Al nl cl] W (fun e w'=> ∃ v:Int,e= .returned (.int .u32 v)∧ P (.returned (.int .u32 v)) w')):= zak (fun W h1 Fl Al nl cl dl h2 h3=>(HKP.out W h1 Fl Al nl cl dl h2 h3).mono (fun e w' hk=>by
  have he:=hk
  obtain⟨_,_,_,_,_,_,_,he,_⟩:= he
  exact⟨_,he,by rw[hP,← he];exact hk⟩))
 rw[← hP]
 clear h hD HKP hrun hops hW hX hLW hGW hP h1 hgl hlw
 go_enter Tryz.func70,Tryz.ntmps70
 go_wp2_with fail
 refine (HDR.out _ (Below.refl _ _)).mono ?_
 rintro e w1 ⟨A1,n1,c1',d1,rfl,hO1,hb1⟩
 have HO1:=zak hO1
 have HB1:=zak hb1
 clear hO1 hb1
 go_wp2_with fail
 refine (HOF.out _ HB1.out).mono ?_
 rintro e w2 ⟨A2,n2,c2,d2,rfl,hO2,hb2⟩
 have HO2:=zak hO2
 have HB2:=zak (zbd hb2 HB1.out)
 have HO12:=zak (HO1.out.below hb2)
 clear hO2 hb2
 go_wp2_with fail
 refine (HJO.out w2 A1 n1 c1' A2 n2 c2 HO12.out.hn HO12.out.slV HO2.out.hn HO2.out.slV).mono ?_
 rintro e w3 ⟨A3,n3,c3,d3,rfl,hO3,hb3⟩
 rw[← HLW.out] at hO3
 have HO3:=zak hO3
 have HB3:=zak (zbd hb3 HB2.out)
 have hz2:=HB2.out.size
 clear hO3 hb3
 go_wp2_with fail
 refine (HKP2.out w3 HB3.out _ A3 n3 c3 d3 (zv1 HO3.out) (fun g hg=>⟨by omega,hg.2⟩)).mono ?_
 rintro e w4 ⟨v,rfl,hk⟩
 have HK:=zak hk
 clear hk
 go_wp2_with fail
 exact HK.out
theorem zyw {L:List Ent} (hs:SortedE L) (hr:∀ E ∈ L,rightE E=0) (hl200:L.length≤200) {J:JS} {R:JS×FS×Int} {gr:Int} (w:World) (h:RV w pr r q S A c FX As ns cs dx X odd off) (hX:GoodX L X)
 (h1:1≤gr∧gr≤4) (hrun:RunK J S) (hops:S.ops+2000 < 4611686018427387904) (hW:WrP J S (if (dropL X gr).length=0 then 2 else 1) (dropL X gr) R) :
 Calls Tryz.prog 71 #[.pointer (some ⟨pr,0,none⟩),.int .i64 gr] w (RStoR pr r q FX X (dropL X gr) odd off R w):= by
 have hgl:ns≤200:=by
  have:=zxs hs hX.1 (fun v hv=>by
   obtain⟨j,E,h1,_,_,h5,h6⟩:= hX.2 v hv
   exact⟨j,E,h1,h5,h6⟩)
  rw[h.row.hn];omega
 have HDR:=zak (fun W (hb:Below w.heap.size w W)=> zx9 As ns cs X gr W h.row.hn (by omega) (h.row.below hb).slV (zxw hX) (zxu hr hX))
 have hGW:=zxk hX gr
 obtain⟨LW,hLW⟩:∃ l,l=dropL X gr:=⟨_,rfl⟩
 rw[← hLW] at hW hGW ⊢
 have HLW:=zak hLW
 have hlw:LW.length≤1000:=by
  have:=zxs hs hGW.1 (fun v hv=>by
   obtain⟨j,E,h1,_,_,h5,h6⟩:= hGW.2 v hv
   exact⟨j,E,h1,h5,h6⟩)
  omega
 have HKP:=zak (fun (W:World) (hb:Below w.heap.size w W) (Fl:Nat→Prop) (Al nl cl dl) (hrow:OwnSV W Fl Al nl cl LW dl) (hfl:∀ g,Fl g→w.heap.size≤g∧g < W.heap.size)=> (zyr hr (kd:=if LW.length=0 then 2 else 1) W (h.below hb) hrun hops hGW (by by_cases h0:LW.length=0;exact .inr ⟨by rw[if_pos h0],List.eq_nil_of_length_eq_zero h0⟩;exact .inl (by rw[if_neg h0])) hW hrow (by rw[hrow.hn];exact hlw) (fun g hg=>h.fresh (hfl g hg))).mono (fun e w' hk=>zys hb hfl hk))
 have c1:=h.blk.cell 1 (u:= .slice As ns cs) rfl
 have g1: ¬ gr < 1:=by omega
 have g4: ¬ 4 < gr:=by omega
 obtain⟨P,hP⟩:∃ P,P=RStoR pr r q FX X LW odd off R w:=⟨_,rfl⟩
 obtain⟨kd,hkd⟩:∃ k:Int,k=if LW.length=0 then 2 else 1:=⟨_,rfl⟩
 rw[← hkd] at HKP
 have HKP2:Hid (∀ (W:World) (_:Below w.heap.size w W) (Fl:Nat→Prop) (Al:Option Addr) (nl cl:Nat) (dl:List (Option Addr×Nat)) (_:OwnSV W Fl Al nl cl LW dl) (_:∀ g,Fl g→w.heap.size≤g∧g < W.heap.size),Calls Tryz.prog 114 #[.pointer (some ⟨pr,0,none⟩),.int .i64 kd,.slice Al nl cl] W (fun e w'=> ∃ v:Int,e= .returned (.int .u32 v)∧ P (.returned (.int .u32 v)) w')):= zak (fun W h1 Fl Al nl cl dl h2 h3=>(HKP.out W h1 Fl Al nl cl dl h2 h3).mono (fun e w' hk=>by
  have he:=hk
  obtain⟨_,_,_,_,_,_,_,he,_⟩:= he
  exact⟨_,he,by rw[hP,← he];exact hk⟩))
 rw[← hP]
 obtain⟨nl,hnl⟩:∃ n,n=LW.length:=⟨_,rfl⟩
 have HNL:=zak hnl
 by_cases h0:nl=0
 · have hk2:kd=2:=by rw[hkd,if_pos (by omega)]
   have hle:LW= []:= List.eq_nil_of_length_eq_zero (by omega)
   subst hk2
   have HLE:=zak hle
   clear h HKP hrun hops hW hX hLW hGW hP h1 hgl hlw hkd hle
   go_enter Tryz.func71,Tryz.ntmps71
   go_wp2_with fail
   refine (HDR.out _ (Below.refl _ _)).mono ?_
   rintro e w1 ⟨A1,n1,c1',d1,rfl,hO1,hb1⟩
   rw[← HLW.out] at hO1
   obtain rfl:n1=nl:=hO1.hn.trans hnl.symm
   have HB1:=zak hb1
   clear hO1 hb1 hnl
   subst h0
   go_wp2_with fail
   refine (HKP2.out w1 HB1.out (fun _=>False) none 0 0 [] (by rw[HLE.out];exact zcq.nil _ _) (fun g hg=>hg.elim)).mono ?_
   rintro e w4 ⟨v,rfl,hk⟩
   have HK:=zak hk
   clear hk
   go_wp2_with fail
   exact HK.out
 · have hk2:kd=1:=by rw[hkd,if_neg (by omega)]
   subst hk2
   clear h HKP hrun hops hW hX hLW hGW hP h1 hgl hlw hkd
   go_enter Tryz.func71,Tryz.ntmps71
   go_wp2_with fail
   refine (HDR.out _ (Below.refl _ _)).mono ?_
   rintro e w1 ⟨A1,n1,c1',d1,rfl,hO1,hb1⟩
   rw[← HLW.out] at hO1
   obtain rfl:n1=nl:=hO1.hn.trans hnl.symm
   have HO1:=zak hO1
   have HB1:=zak hb1
   have hne:((n1:Int) == 0)=false:=by simp;omega
   clear hO1 hb1 hnl
   go_wp2_with fail
   refine (HKP2.out w1 HB1.out _ A1 n1 c1' d1 (zv1 HO1.out) (fun g hg=>hg)).mono ?_
   rintro e w4 ⟨v,rfl,hk⟩
   have HK:=zak hk
   clear hk
   go_wp2_with fail
   exact HK.out
theorem zyx {L:List Ent} {V:List (List UInt8)} {Ft:Nat→Prop} {pt nt clt cvt:Nat} {Al Avt:Option Addr} {dt et:List (Option Addr×Nat)} (w:World) (h:RV w pr r q S A c FX As ns cs dx X odd off) (hns:ns≤1000) (hfit:fitsV X)
 (hD:DB 112 w Ft pt Al nt clt Avt cvt L V dt et) (hnt:nt≤1000) (hF:∀ g,Ft g→g < w.heap.size∧ ¬ FX g∧g≠pr) :
 Calls Tryz.prog 72 #[.pointer (some ⟨pr,0,none⟩),.pointer (some ⟨pt,0,none⟩)] w fun e w'=> ∃ V' et',e= .returned (.int .i64 (checkL L X))∧ V'=applyV L (L.map Ent.df) X∧DB 112 w' (fun g=>Ft g∨w.heap.size≤g) pt Al nt clt Avt cvt L V' dt et'∧zcj Ft w w':=by
 have HH:=zak h
 have HRS:=zak (zt6 w hD hnt)
 have HF:=zak hF
 have HFIT:=zak hfit
 clear h hD hF hfit
 go_enter Tryz.func72,Tryz.ntmps72
 go_wp2_with fail
 refine HRS.out.mono ?_
 rintro e w1 ⟨et1,rfl,hD1,ho1⟩
 have HD1:=zak hD1
 have HO1:=zak ho1
 have hp1:Blk w1 pr 77 #[.pointer (some ⟨r,0,none⟩),.slice As ns cs,.bool odd,.bool off]:= (ho1.block pr HH.out.blk.lt (fun hx=>(HF.out pr hx).2.2 rfl)).trans HH.out.blk
 have k1:=hp1.cell 1 (u:= .slice As ns cs) rfl
 have HR1:=zak (HH.out.row.keep (fun g hg hl=>ho1.block g hl (fun hx=>(HF.out g hx).2.1 hg)))
 have hz:=ho1.size
 clear hD1 ho1 hp1
 go_wp2_with fail
 refine (zvz As ns cs X w1 HD1.out hnt HR1.out.hn hns (fun W hW=>(HR1.out.keep (fun g hg hl=>hW.block g hl (fun hx=>hx.elim (fun hx=>(HF.out g hx).2.1 hg) (fun hx=>by have:=(HH.out.fx g hg).2.2.2;omega)))).slV) HFIT.out).mono ?_
 rintro e w2 ⟨V',et2,rfl,hV,hD2,ho2⟩
 have HD2:=zak (hD2.mono (G:=fun g=>Ft g∨w.heap.size≤g) (fun g _ hg=>hg.elim id (fun hg=> .inr (by omega))))
 have HO2:Hid (zcj Ft w w2):= zak (HO1.out.trans ho2 (fun i hi hx=>hx.elim id (fun hx=>by omega)))
 have HV:=zak hV
 clear hV hD2 ho2
 go_wp2_with fail
 go_ret
 exact⟨V',et2,rfl,HV.out,HD2.out,HO2.out⟩
end
end
end Go.Proofs.YtehabbnohoomjaaGreatDoor
