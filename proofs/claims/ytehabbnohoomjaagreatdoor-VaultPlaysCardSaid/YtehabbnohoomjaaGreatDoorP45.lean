/- None -/
import Derived.Test.YtehabbnohoomjaaGreatDoorP44
namespace Go.Proofs.YtehabbnohoomjaaGreatDoor
set_option linter.unusedVariables false
set_option linter.unusedSimpArgs false
set_option linter.unnecessarySimpa false
section
open Go.RowKit
set_option maxRecDepth 20000
set_option maxHeartbeats 8000000
structure Sit (v4 v5:Value) (K:Nat→Prop) (M lo:Nat) (w:World) (pw pd gl n cl cv:Nat) (Av:Option Addr) (L:List Ent) (V:List (List UInt8)) (ds es:List (Option Addr×Nat)) (Fd:Nat→Prop) (q:FP) (pt pr:Nat)
 (Fj FL:Nat→Prop) (pv pj nj cj:Nat) (Aj:Option Addr) (dj:List (Option Addr×Nat)) (As:Option Addr) (ns cs:Nat) (dx:List (Option Addr×Nat)) (J:JS) (S:FS) (X:List SV) (odd off:Bool):Prop where
 blk:Blk w pw 44 #[.pointer (some ⟨pd,0,none⟩),.pointer (some ⟨pt,0,none⟩),.pointer (some ⟨q.p,0,none⟩),.pointer (some ⟨pr,0,none⟩),v4,v5]
 db:DB 102 w Fd pd (some ⟨gl,0,none⟩) n cl Av cv L V ds es
 hn:n=L.length
 vd:VD w M Fj FL pv pj q Aj nj cj dj As ns cs dx J S X odd off
 inD:∀ g,Fd g→lo≤g∧g < w.heap.size∧g≠pw∧ ¬ K g∧ ¬ (Fj g∨q.F g∨FL g∨g=pv)
 inV:∀ g,Fj g∨q.F g∨FL g∨g=pv→lo≤g∧g < w.heap.size∧g≠pw∧ ¬ K g
 inK:∀ g,K g→g < w.heap.size
 loP:lo≤pw
 loM:M≤lo
def zzl (v4 v5:Value) (K:Nat→Prop) (M lo:Nat) (w:World) (pw pd pv:Nat) (q:FP) (n:Nat) (L:List Ent) (V:List (List UInt8)) (J:JS) (S:FS) (X:List SV) (odd off:Bool):Prop:=
 ∃ gl cl cv Av ds es Fd pt pr Fj FL pj nj cj Aj dj As ns cs dx,Sit v4 v5 K M lo w pw pd gl n cl cv Av L V ds es Fd q pt pr Fj FL pv pj nj cj Aj dj As ns cs dx J S X odd off
def FreeK (K:Nat→Prop) (lo:Nat):Nat→Prop:=fun g=>lo≤g∧ ¬ K g
section
variable {v4 v5:Value} {K:Nat→Prop} {M lo pw pd pv n:Nat} {q:FP} {L:List Ent} {V:List (List UInt8)} {J:JS} {S:FS} {X:List SV} {odd off:Bool} {w w':World}
theorem zzl.hn (h:zzl v4 v5 K M lo w pw pd pv q n L V J S X odd off):n=L.length:=by
 obtain⟨gl,cl,cv,Av,ds,es,Fd,pt,pr,Fj,FL,pj,nj,cj,Aj,dj,As,ns,cs,dx,h⟩:= h
 exact h.hn
theorem zzl.lenV (h:zzl v4 v5 K M lo w pw pd pv q n L V J S X odd off):V.length=L.length:=by
 obtain⟨gl,cl,cv,Av,ds,es,Fd,pt,pr,Fj,FL,pj,nj,cj,Aj,dj,As,ns,cs,dx,h⟩:= h
 exact h.db.lenV
theorem zzl.ext (h:zzl v4 v5 K M lo w pw pd pv q n L V J S X odd off) (hb:Below w.heap.size w w'):zzl v4 v5 (fun g=>K g∨(w.heap.size≤g∧g < w'.heap.size)) M lo w' pw pd pv q n L V J S X odd off:=by
 obtain⟨gl,cl,cv,Av,ds,es,Fd,pt,pr,Fj,FL,pj,nj,cj,Aj,dj,As,ns,cs,dx,h⟩:= h
 have hz:=hb.size
 refine⟨gl,cl,cv,Av,ds,es,Fd,pt,pr,Fj,FL,pj,nj,cj,Aj,dj,As,ns,cs,dx,h.blk.below hb h.blk.lt,h.db.below hb,h.hn,h.vd.below hb,?_,?_,?_,h.loP,h.loM⟩
 · intro g hg
   obtain⟨h1,h2,h3,h4,h5⟩:= h.inD g hg
   exact⟨h1,by omega,h3,fun hx=>hx.elim h4 (fun hx=>by omega),h5⟩
 · intro g hg
   obtain⟨h1,h2,h3,h4⟩:= h.inV g hg
   exact⟨h1,by omega,h3,fun hx=>hx.elim h4 (fun hx=>by omega)⟩
 · rintro g (hg | hg)
   · have:=h.inK g hg;omega
   · exact hg.2
theorem zzl.below (h:zzl v4 v5 K M lo w pw pd pv q n L V J S X odd off) (hb:Below w.heap.size w w'):zzl v4 v5 K M lo w' pw pd pv q n L V J S X odd off:=by
 obtain⟨gl,cl,cv,Av,ds,es,Fd,pt,pr,Fj,FL,pj,nj,cj,Aj,dj,As,ns,cs,dx,h⟩:= h
 have hz:=hb.size
 refine⟨gl,cl,cv,Av,ds,es,Fd,pt,pr,Fj,FL,pj,nj,cj,Aj,dj,As,ns,cs,dx,h.blk.below hb h.blk.lt,h.db.below hb,h.hn,h.vd.below hb,?_,?_,?_,h.loP,h.loM⟩
 · intro g hg
   obtain⟨h1,h2,h3,h4,h5⟩:= h.inD g hg
   exact⟨h1,by omega,h3,h4,h5⟩
 · intro g hg
   obtain⟨h1,h2,h3,h4⟩:= h.inV g hg
   exact⟨h1,by omega,h3,h4⟩
 · intro g hg
   have:=h.inK g hg;omega
theorem zzl.less {K':Nat→Prop} (h:zzl v4 v5 K M lo w pw pd pv q n L V J S X odd off) (hk:∀ g,K' g→K g):zzl v4 v5 K' M lo w pw pd pv q n L V J S X odd off:=by
 obtain⟨gl,cl,cv,Av,ds,es,Fd,pt,pr,Fj,FL,pj,nj,cj,Aj,dj,As,ns,cs,dx,h⟩:= h
 refine⟨gl,cl,cv,Av,ds,es,Fd,pt,pr,Fj,FL,pj,nj,cj,Aj,dj,As,ns,cs,dx,h.blk,h.db,h.hn,h.vd,?_,?_,fun g hg=>h.inK g (hk g hg),h.loP,h.loM⟩
 · intro g hg
   obtain⟨h1,h2,h3,h4,h5⟩:= h.inD g hg
   exact⟨h1,h2,h3,fun hx=>h4 (hk g hx),h5⟩
 · intro g hg
   obtain⟨h1,h2,h3,h4⟩:= h.inV g hg
   exact⟨h1,h2,h3,fun hx=>h4 (hk g hx)⟩
theorem zzm (h:zcj (FreeK K lo) w w') {N:Nat} {w0:World} (hb:Below N w0 w) (hN:N≤lo) (hw:N≤w0.heap.size):Below N w0 w':=
 hb.trans (h.below (Nat.le_trans hw hb.size) (fun i hi=>Nat.le_trans hN hi.1))
theorem zzn (ix sub:Int) (A:Option Addr) (m c:Nat) (b:List UInt8) (w:World) (h:zzl v4 v5 K M lo w pw pd pv q n L V J S X odd off) (hs:SortedE L) (hn:n≤1000) (hm:m=b.length) (hc:m≤c) (hl:m≤35184372088832) (hb:Sl w A (b.map bv)) :
 Calls Tryz.prog 12 #[.pointer (some ⟨pd,0,none⟩),.int .i64 ix,.int .i64 sub,.slice A m c] w fun e w'=>e= .returned (.int .u32 (mayC L ix sub b true))∧ zzl v4 v5 K M lo w' pw pd pv q n L (putV L V ix sub b true) J S X odd off∧zcj (FreeK K lo) w w':=by
 obtain⟨gl,cl,cv,Av,ds,es,Fd,pt,pr,Fj,FL,pj,nj,cj,Aj,dj,As,ns,cs,dx,h⟩:= h
 refine (zs0 ix sub A m c b w h.db hs hn hm hc hl hb).mono ?_
 rintro e w' ⟨V',es',rfl,rfl,hD,ho⟩
 have hz:=ho.size
 refine⟨rfl,⟨gl,cl,cv,Av,ds,es',fun g=>Fd g∨(w.heap.size≤g∧g < w'.heap.size),pt,pr,Fj,FL,pj,nj,cj,Aj,dj,As,ns,cs,dx,?_,hD.mono (fun g hlt hg=>hg.imp id (fun hg=>⟨hg,hlt⟩)),h.hn,h.vd.only ho (fun g hg=>(h.inD g hg).2.2.2.2),?_,?_,fun g hg=>Nat.lt_of_lt_of_le (h.inK g hg) hz,h.loP,h.loM⟩,ho.mono (fun g _ hg=>⟨(h.inD g hg).1,(h.inD g hg).2.2.2.1⟩)⟩
 · exact (ho.block pw h.blk.lt (fun hx=>(h.inD pw hx).2.2.1 rfl)).trans h.blk
 · have hlt:=h.blk.lt
   have hlo:=h.loP
   rintro g (hg | hg)
   · obtain⟨h1,h2,h3,h4,h5⟩:= h.inD g hg
     exact⟨h1,by omega,h3,h4,h5⟩
   · refine⟨by omega,hg.2,by omega,fun hx=>by have:=h.inK g hx;omega,fun hx=>?_⟩
     have:=(h.inV g hx).2.1
     omega
 · intro g hg
   obtain⟨h1,h2,h3,h4⟩:= h.inV g hg
   exact⟨h1,by omega,h3,h4⟩
theorem zzo (w:World) (h:zzl v4 v5 K M lo w pw pd pv q n L V J S X odd off) (hn:n≤1000) :
 Calls Tryz.prog 13 #[.pointer (some ⟨pd,0,none⟩)] w (ValuesR (svL L V) w):= by
 obtain⟨gl,cl,cv,Av,ds,es,Fd,pt,pr,Fj,FL,pj,nj,cj,Aj,dj,As,ns,cs,dx,h⟩:= h
 exact ztu w h.db hn
theorem zzp {J':JS} {S':FS} {X':List SV} {odd' off':Bool} {gl cl cv:Nat} {Av:Option Addr} {ds es:List (Option Addr×Nat)} {Fd:Nat→Prop} {pt pr:Nat} {Fj FL Fj' FL':Nat→Prop} {pj nj cj:Nat} {Aj:Option Addr} {dj dj':List (Option Addr×Nat)} {As As':Option Addr} {ns cs ns' cs':Nat} {dx dx':List (Option Addr×Nat)}
 (h:Sit v4 v5 K M lo w pw pd gl n cl cv Av L V ds es Fd q pt pr Fj FL pv pj nj cj Aj dj As ns cs dx J S X odd off) (hV:VD w' M Fj' FL' pv pj q Aj nj cj dj' As' ns' cs' dx' J' S' X' odd' off') (ho:zcj (fun g=>Fj g∨q.F g∨g=pv) w w') (hf:∀ g,Fj' g∨FL' g→Fj g∨FL g∨(w.heap.size≤g∧g < w'.heap.size)) :
 zzl v4 v5 K M lo w' pw pd pv q n L V J' S' X' odd' off'∧zcj (FreeK K lo) w w':=by
 have hz:=ho.size
 have hlt:=h.blk.lt
 have hlo:=h.loP
 have hi:∀ g,Fj g∨q.F g∨g=pv→Fj g∨q.F g∨FL g∨g=pv:=fun g hg=>hg.imp id (fun hg=>hg.imp id .inr)
 refine⟨⟨gl,cl,cv,Av,ds,es,Fd,pt,pr,Fj',FL',pj,nj,cj,Aj,dj',As',ns',cs',dx',?_,h.db.keep (fun g hg hl=>ho.block g hl (fun hx=>(h.inD g hg).2.2.2.2 (hi g hx))),h.hn,hV,?_,?_,fun g hg=>Nat.lt_of_lt_of_le (h.inK g hg) hz,h.loP,h.loM⟩,ho.mono (fun g _ hg=>⟨(h.inV g (hi g hg)).1,(h.inV g (hi g hg)).2.2.2⟩)⟩
 · exact (ho.block pw hlt (fun hx=>(h.inV pw (hi pw hx)).2.2.1 rfl)).trans h.blk
 · intro g hg
   obtain⟨h1,h2,h3,h4,h5⟩:= h.inD g hg
   refine⟨h1,by omega,h3,h4,?_⟩
   rintro (hx | hx | hx | hx)
   · rcases hf g (.inl hx) with k | k | k
     · exact h5 (.inl k)
     · exact h5 (.inr (.inr (.inl k)))
     · omega
   · exact h5 (.inr (.inl hx))
   · rcases hf g (.inr hx) with k | k | k
     · exact h5 (.inl k)
     · exact h5 (.inr (.inr (.inl k)))
     · omega
   · exact h5 (.inr (.inr (.inr hx)))
 · intro g hg
   have base:(Fj g∨q.F g∨FL g∨g=pv)∨ (w.heap.size≤g∧g < w'.heap.size):= by
    rcases hg with hx | hx | hx | hx
    · rcases hf g (.inl hx) with k | k | k
      · exact .inl (.inl k)
      · exact .inl (.inr (.inr (.inl k)))
      · exact .inr k
    · exact .inl (.inr (.inl hx))
    · rcases hf g (.inr hx) with k | k | k
      · exact .inl (.inl k)
      · exact .inl (.inr (.inr (.inl k)))
      · exact .inr k
    · exact .inl (.inr (.inr (.inr hx)))
   rcases base with k | k
   · obtain⟨h1,h2,h3,h4⟩:= h.inV g k
     exact⟨h1,by omega,h3,h4⟩
   · exact⟨by omega,k.2,by omega,fun hx=>by have:=h.inK g hx;omega⟩
theorem zzq (a:Nat→Addr) (gr:Int) (w:World) (h:zzl v4 v5 K M lo w pw pd pv q n L V J S X odd off) (hG:GV w a M) (hrun:RunJ J S) (hops:S.ops+2000 < 4611686018427387904) (h1:1≤gr∧gr≤4) (hnd:n≤200) (hVl:∀ v ∈ V,v.length≤2000) :
 Calls Tryz.prog 14 #[.pointer (some ⟨pv,0,none⟩),.pointer (some ⟨pd,0,none⟩),.int .i64 gr] w fun e w'=> ∃ R:JS×FS×Int,WrP J S 1 (joinV (dropL X gr) (ofV L V gr)) R∧e= .returned (.int .u32 (codeV R.2.2:Nat))∧
  zzl v4 v5 K M lo w' pw pd pv q n L V R.1 R.2.1 (if R.2.2=0 then joinV (dropL X gr) (ofV L V gr) else X) (if R.2.2=0 then false else odd) (off || decide (R.2.2=7))∧ zcj (FreeK K lo) w w':=by
 obtain⟨gl,cl,cv,Av,ds,es,Fd,pt,pr,Fj,FL,pj,nj,cj,Aj,dj,As,ns,cs,dx,h⟩:= h
 have hM:M≤w.heap.size:=by have:=h.loM;have:=h.loP;have:=h.blk.lt;omega
 refine (zwm a gr w h.vd hG hM hrun hops h1 h.db hnd hVl).mono ?_
 rintro e w' ⟨R,dj',Fj',FL',As',ns',cs',dx',hW,rfl,hV,ho,hf⟩
 exact⟨R,hW,rfl,zzp h hV ho hf⟩
theorem zzr (a:Nat→Addr) (gr:Int) (w:World) (h:zzl v4 v5 K M lo w pw pd pv q n L V J S X odd off) (hG:GV w a M) (hrun:RunJ J S) (hops:S.ops+2000 < 4611686018427387904) (h1:1≤gr∧gr≤4) :
 Calls Tryz.prog 16 #[.pointer (some ⟨pv,0,none⟩),.int .i64 gr] w fun e w'=> ∃ R:JS×FS×Int,WrP J S (if (dropL X gr).length=0 then 2 else 1) (dropL X gr) R∧e= .returned (.int .u32 (codeV R.2.2:Nat))∧
  zzl v4 v5 K M lo w' pw pd pv q n L V R.1 R.2.1 (if R.2.2=0 then dropL X gr else X) (if R.2.2=0 then false else odd) (off || decide (R.2.2=7))∧ zcj (FreeK K lo) w w':=by
 obtain⟨gl,cl,cv,Av,ds,es,Fd,pt,pr,Fj,FL,pj,nj,cj,Aj,dj,As,ns,cs,dx,h⟩:= h
 have hM:M≤w.heap.size:=by have:=h.loM;have:=h.loP;have:=h.blk.lt;omega
 refine (zwp a gr w h.vd hG hM hrun hops h1).mono ?_
 rintro e w' ⟨R,dj',Fj',FL',As',ns',cs',dx',hW,rfl,hV,ho,hf⟩
 exact⟨R,hW,rfl,zzp h hV ho hf⟩
theorem zzs (w:World) (h:zzl v4 v5 K M lo w pw pd pv q n L V J S X odd off):Calls Tryz.prog 17 #[.pointer (some ⟨pv,0,none⟩)] w (fun e w'=> ∃ A' n' c' ds,e= .returned (.slice A' n' c')∧ znh w' w.heap.size A' n' c' (dropL X 0) ds∧Below w.heap.size w w'):= by
 obtain⟨gl,cl,cv,Av,ds,es,Fd,pt,pr,Fj,FL,pj,nj,cj,Aj,dj,As,ns,cs,dx,h⟩:= h
 exact zv7 w h.vd
theorem zzt (w:World) (h:zzl v4 v5 K M lo w pw pd pv q n L V J S X odd off):Calls Tryz.prog 20 #[.pointer (some ⟨pv,0,none⟩)] w fun e w'=>e= .returned (.bool odd)∧ w=w':=by
 obtain⟨gl,cl,cv,Av,ds,es,Fd,pt,pr,Fj,FL,pj,nj,cj,Aj,dj,As,ns,cs,dx,h⟩:= h
 exact zv4 w h.vd
theorem zzu (w:World) (h:zzl v4 v5 K M lo w pw pd pv q n L V J S X odd off) (hs:SortedE L) (hn:n≤1000) :
 Calls Tryz.prog 15 #[.pointer (some ⟨pv,0,none⟩),.pointer (some ⟨pd,0,none⟩)] w fun e w'=>e= .returned (.int .i64 (checkL L X))∧ zzl v4 v5 K M lo w' pw pd pv q n L (applyV L (L.map Ent.df) X) J S X odd off∧zcj (FreeK K lo) w w':=by
 obtain⟨gl,cl,cv,Av,ds,es,Fd,pt,pr,Fj,FL,pj,nj,cj,Aj,dj,As,ns,cs,dx,h⟩:= h
 refine (zwq w h.vd h.db hs hn (fun g hg=>⟨(h.inD g hg).2.1,fun hx=>(h.inD g hg).2.2.2.2 (hx.elim (fun k=> .inr (.inr (.inl k))) (fun k=> .inr (.inr (.inr k))))⟩)).mono ?_
 rintro e w' ⟨V',es',rfl,rfl,hD,ho⟩
 have hz:=ho.size
 refine⟨rfl,⟨gl,cl,cv,Av,ds,es',fun g=>Fd g∨(w.heap.size≤g∧g < w'.heap.size),pt,pr,Fj,FL,pj,nj,cj,Aj,dj,As,ns,cs,dx,?_,hD.mono (fun g hlt hg=>hg.imp id (fun hg=>⟨hg,hlt⟩)),h.hn,h.vd.only ho (fun g hg=>(h.inD g hg).2.2.2.2),?_,?_,fun g hg=>Nat.lt_of_lt_of_le (h.inK g hg) hz,h.loP,h.loM⟩,ho.mono (fun g _ hg=>⟨(h.inD g hg).1,(h.inD g hg).2.2.2.1⟩)⟩
 · exact (ho.block pw h.blk.lt (fun hx=>(h.inD pw hx).2.2.1 rfl)).trans h.blk
 · have hlt:=h.blk.lt
   have hlo:=h.loP
   rintro g (hg | hg)
   · obtain⟨h1,h2,h3,h4,h5⟩:= h.inD g hg
     exact⟨h1,by omega,h3,h4,h5⟩
   · refine⟨by omega,hg.2,by omega,fun hx=>by have:=h.inK g hx;omega,fun hx=>?_⟩
     have:=(h.inV g hx).2.1
     omega
 · intro g hg
   obtain⟨h1,h2,h3,h4⟩:= h.inV g hg
   exact⟨h1,by omega,h3,h4⟩
theorem zzv {S':FS} (h:zzl v4 v5 K M lo w pw pd pv q n L V J S X odd off) (hF:FD w' q S') (ho:zcj (fun g=>g=q.p) w w'):zzl v4 v5 K M lo w' pw pd pv q n L V J S' X odd off∧zcj (FreeK K lo) w w':=by
 obtain⟨gl,cl,cv,Av,ds,es,Fd,pt,pr,Fj,FL,pj,nj,cj,Aj,dj,As,ns,cs,dx,h⟩:= h
 have hp:q.F q.p:= .inl rfl
 have hi:∀ g,g=q.p→Fj g∨q.F g∨FL g∨g=pv:=fun g hg=>by rw[hg];exact .inr (.inl hp)
 have hz:=ho.size
 have v:=h.vd
 refine⟨⟨gl,cl,cv,Av,ds,es,Fd,pt,pr,Fj,FL,pj,nj,cj,Aj,dj,As,ns,cs,dx,(ho.block pw h.blk.lt (fun hx=>(h.inV pw (hi pw hx)).2.2.1 rfl)).trans h.blk,h.db.keep (fun g hg hl=>ho.block g hl (fun hx=>(h.inD g hg).2.2.2.2 (hi g hx))),h.hn,
  ⟨(ho.block pv v.blk.lt (fun hx=>(v.fw q.p (.inr hp)).2.2 hx.symm)).trans v.blk,v.jd.only ho (fun g hg hx=>v.dq g hg (by rw[hx];exact hp)),hF,v.row.keep (fun g hg hl=>ho.block g hl (fun hx=>(v.lw g hg).2.2.2 (.inr (by rw[hx];exact hp)))),v.mv,fun g hg=>⟨Nat.lt_of_lt_of_le (v.fw g hg).1 hz,(v.fw g hg).2⟩,fun g hg=>⟨Nat.lt_of_lt_of_le (v.lw g hg).1 hz,(v.lw g hg).2⟩,v.dq,v.sz,v.fit⟩,?_,?_,fun g hg=>Nat.lt_of_lt_of_le (h.inK g hg) hz,h.loP,h.loM⟩,ho.mono (fun g _ hg=>⟨(h.inV g (hi g hg)).1,(h.inV g (hi g hg)).2.2.2⟩)⟩
 · intro g hg
   obtain⟨h1,h2,h3,h4,h5⟩:= h.inD g hg
   exact⟨h1,by omega,h3,h4,h5⟩
 · intro g hg
   obtain⟨h1,h2,h3,h4⟩:= h.inV g hg
   exact⟨h1,by omega,h3,h4⟩
theorem zzw (k m:Nat) (w:World) (h:zzl v4 v5 K M lo w pw pd pv q n L V J S X odd off) (hk:k≤9223372036854775807) (hm:U32 m):Calls Tryz.prog 28 #[.pointer (some ⟨q.p,0,none⟩),.int .i64 (k:Nat),.int .u32 (m:Nat)] w fun e w'=>e= .returned (.int .i64 0)∧ zzl v4 v5 K M lo w' pw pd pv q n L V J { S with ahead:=(k:Nat),mask:=m } X odd off∧zcj (FreeK K lo) w w':=by
 have HH:=zak h
 obtain⟨gl,cl,cv,Av,ds,es,Fd,pt,pr,Fj,FL,pj,nj,cj,Aj,dj,As,ns,cs,dx,h⟩:= h
 refine (zhk q S w k m h.vd.fd hk hm).mono ?_
 rintro e w' ⟨rfl,hF,ho⟩
 exact⟨rfl,zzv HH.out hF ho⟩
end
end
section
open Go.RowKit
set_option maxRecDepth 20000
set_option maxHeartbeats 8000000
section
variable {v4 v5:Value} {K:Nat→Prop} {M lo pw pd pv n:Nat} {q:FP} {L:List Ent} {V:List (List UInt8)} {J:JS} {S:FS} {X:List SV} {odd off:Bool} {w w':World}
theorem zzl.other {F:Nat→Prop} (h:zzl v4 v5 K M lo w pw pd pv q n L V J S X odd off) (ho:zcj F w w') (hF:∀ g,F g→K g∧g≠pw):zzl v4 v5 (fun g=>K g∨(w.heap.size≤g∧g < w'.heap.size)) M lo w' pw pd pv q n L V J S X odd off:=by
 obtain⟨gl,cl,cv,Av,ds,es,Fd,pt,pr,Fj,FL,pj,nj,cj,Aj,dj,As,ns,cs,dx,h⟩:= h
 have hz:=ho.size
 refine⟨gl,cl,cv,Av,ds,es,Fd,pt,pr,Fj,FL,pj,nj,cj,Aj,dj,As,ns,cs,dx,(ho.block pw h.blk.lt (fun hx=>(hF pw hx).2 rfl)).trans h.blk,h.db.keep (fun g hg hl=>ho.block g hl (fun hx=>(h.inD g hg).2.2.2.1 (hF g hx).1)),h.hn,h.vd.only ho (fun g hg hx=>(h.inV g hx).2.2.2 (hF g hg).1),?_,?_,?_,h.loP,h.loM⟩
 · intro g hg
   obtain⟨h1,h2,h3,h4,h5⟩:= h.inD g hg
   exact⟨h1,by omega,h3,fun hx=>hx.elim h4 (fun hx=>by omega),h5⟩
 · intro g hg
   obtain⟨h1,h2,h3,h4⟩:= h.inV g hg
   exact⟨h1,by omega,h3,fun hx=>hx.elim h4 (fun hx=>by omega)⟩
 · rintro g (hg | hg)
   · have:=h.inK g hg;omega
   · exact hg.2
theorem zzx (w:World) (h:zzl v4 v5 K M lo w pw pd pv q n L V J S X odd off):Calls Tryz.prog 21 #[.pointer (some ⟨pv,0,none⟩)] w fun e w'=>e= .returned (.bool off)∧ w=w':=by
 obtain⟨gl,cl,cv,Av,ds,es,Fd,pt,pr,Fj,FL,pj,nj,cj,Aj,dj,As,ns,cs,dx,h⟩:= h
 exact zv5 w h.vd
theorem zzy (gr:Int) (p:Option Addr) (w:World) (h:zzl v4 v5 K M lo w pw pd pv q n L V J S X odd off) (h1: ¬ (1≤gr∧gr≤4)):Calls Tryz.prog 14 #[.pointer (some ⟨pv,0,none⟩),.pointer p,.int .i64 gr] w fun e w'=>e= .returned (.int .u32 101253168)∧ w=w':=by
 obtain⟨gl,cl,cv,Av,ds,es,Fd,pt,pr,Fj,FL,pj,nj,cj,Aj,dj,As,ns,cs,dx,h⟩:= h
 exact zwo gr p w h.vd h1
end
structure Pre (M lo:Nat) (w:World) (pw pd pt:Nat) (qf qr:FP) (n:Nat) (L:List Ent) (V:List (List UInt8)) (S:FS) (gl cl cv:Nat) (Av:Option Addr) (ds es:List (Option Addr×Nat)) (Fd:Nat→Prop) (Al:Option Addr) (clt:Nat) (Avt:Option Addr) (cvt:Nat) (dt et:List (Option Addr×Nat)) (Ft:Nat→Prop):Prop where
 blk:∃ v4 v5,Blk w pw 44 #[.pointer (some ⟨pd,0,none⟩),.pointer (some ⟨pt,0,none⟩),.pointer (some ⟨qf.p,0,none⟩),.pointer (some ⟨qr.p,0,none⟩),v4,v5]
 db:DB 102 w Fd pd (some ⟨gl,0,none⟩) n cl Av cv L V ds es
 dr:DB 112 w Ft pt Al n clt Avt cvt L V dt et
 hn:n=L.length
 fd:FD w qf S
 rf:RF w qr S
 loP:lo≤pw
 loM:M≤lo
 inD:∀ g,Fd g→lo≤g∧g < w.heap.size∧g≠pw∧ ¬ qf.F g∧ ¬ Ft g∧ ¬ qr.F g
 inT:∀ g,Ft g→lo≤g∧g < w.heap.size∧g≠pw∧ ¬ qf.F g∧ ¬ qr.F g
 inQ:∀ g,qf.F g→lo≤g∧g < w.heap.size∧g≠pw∧ ¬ qr.F g
 inR:∀ g,qr.F g→lo≤g∧g < w.heap.size∧g≠pw
def PreE (M lo:Nat) (w:World) (pw pd pt:Nat) (qf qr:FP) (n:Nat) (L:List Ent) (V:List (List UInt8)) (S:FS):Prop:= ∃ gl cl cv Av ds es Fd Al clt Avt cvt dt et Ft,Pre M lo w pw pd pt qf qr n L V S gl cl cv Av ds es Fd Al clt Avt cvt dt et Ft
structure RefP (w:World) (FR:Nat→Prop) (lo pw pd pt pv prv rj:Nat) (qf qr:FP) (n:Nat) (L:List Ent) (V:List (List UInt8)) (S:FS) (X:List SV) (odd off:Bool) (A:Option Addr) (c:Nat) (FX:Nat→Prop) (As:Option Addr) (ns cs:Nat) (dx:List (Option Addr×Nat)) (Al:Option Addr) (clt:Nat) (Avt:Option Addr) (cvt:Nat) (dt et:List (Option Addr×Nat)) (Ft:Nat→Prop):Prop where
 blk:Blk w pw 44 #[.pointer (some ⟨pd,0,none⟩),.pointer (some ⟨pt,0,none⟩),.pointer (some ⟨qf.p,0,none⟩),.pointer (some ⟨qr.p,0,none⟩),.pointer (some ⟨pv,0,none⟩),.pointer (some ⟨prv,0,none⟩)]
 dr:DB 112 w Ft pt Al n clt Avt cvt L V dt et
 rv:RV w prv rj qr S A c FX As ns cs dx X odd off
 inT:∀ g,Ft g→FR g∧g≠prv∧g≠rj∧ ¬ qr.F g∧ ¬ FX g
 inR:∀ g,(g=prv∨g=rj∨qr.F g∨FX g)→ FR g
 fr:∀ g,FR g→lo≤g∧g < w.heap.size∧g≠pw
def zzz (w:World) (FR:Nat→Prop) (lo pw pd pt pv prv:Nat) (qf qr:FP) (n:Nat) (L:List Ent) (V:List (List UInt8)) (S:FS) (X:List SV) (odd off:Bool):Prop:= ∃ rj A c FX As ns cs dx Al clt Avt cvt dt et Ft,RefP w FR lo pw pd pt pv prv rj qf qr n L V S X odd off A c FX As ns cs dx Al clt Avt cvt dt et Ft
def KR (pw:Nat) (FR:Nat→Prop):Nat→Prop:=fun g=>g=pw∨FR g
section
variable {M lo pw pd pt pv prv n:Nat} {qf qr:FP} {L:List Ent} {V:List (List UInt8)} {J:JS} {S:FS} {X:List SV} {odd off:Bool} {w w':World} {FR:Nat→Prop}
theorem zzz.free (h:zzz w FR lo pw pd pt pv prv qf qr n L V S X odd off) (ho:zcj (FreeK (KR pw FR) lo) w w'):zzz w' FR lo pw pd pt pv prv qf qr n L V S X odd off:=by
 obtain⟨rj,A,c,FX,As,ns,cs,dx,Al,clt,Avt,cvt,dt,et,Ft,h⟩:= h
 have hz:=ho.size
 refine⟨rj,A,c,FX,As,ns,cs,dx,Al,clt,Avt,cvt,dt,et,Ft,(ho.block pw h.blk.lt (fun hx=>hx.2 (.inl rfl))).trans h.blk,h.dr.keep (fun g hg hl=>ho.block g hl (fun hx=>hx.2 (.inr (h.inT g hg).1))),h.rv.keep (fun g hg hl=>ho.block g hl (fun hx=>hx.2 (.inr (h.inR g hg)))) hz,h.inT,h.inR,fun g hg=>⟨(h.fr g hg).1,by have:=(h.fr g hg).2.1;omega,(h.fr g hg).2.2⟩⟩
theorem zzz.below (h:zzz w FR lo pw pd pt pv prv qf qr n L V S X odd off) (hb:Below w.heap.size w w'):zzz w' FR lo pw pd pt pv prv qf qr n L V S X odd off:=by
 obtain⟨rj,A,c,FX,As,ns,cs,dx,Al,clt,Avt,cvt,dt,et,Ft,h⟩:= h
 have hz:=hb.size
 exact⟨rj,A,c,FX,As,ns,cs,dx,Al,clt,Avt,cvt,dt,et,Ft,h.blk.below hb h.blk.lt,h.dr.below hb,h.rv.below hb,h.inT,h.inR,fun g hg=>⟨(h.fr g hg).1,by have:=(h.fr g hg).2.1;omega,(h.fr g hg).2.2⟩⟩
theorem zzz.blk (h:zzz w FR lo pw pd pt pv prv qf qr n L V S X odd off):Blk w pw 44 #[.pointer (some ⟨pd,0,none⟩),.pointer (some ⟨pt,0,none⟩),.pointer (some ⟨qf.p,0,none⟩),.pointer (some ⟨qr.p,0,none⟩),.pointer (some ⟨pv,0,none⟩),.pointer (some ⟨prv,0,none⟩)]:= by
 obtain⟨rj,A,c,FX,As,ns,cs,dx,Al,clt,Avt,cvt,dt,et,Ft,h⟩:= h
 exact h.blk
def FN (FR:Nat→Prop) (w w':World):Nat→Prop:=fun g=>FR g∨(w.heap.size≤g∧g < w'.heap.size)
theorem zz0 {v4 v5:Value} {F:Nat→Prop} (h:zzl v4 v5 (KR pw FR) M lo w pw pd pv qf n L V J S X odd off) (ho:zcj F w w') (hF:∀ g,F g→FR g∧g≠pw):zzl v4 v5 (KR pw (FN FR w w')) M lo w' pw pd pv qf n L V J S X odd off:=
 (h.other ho (fun g hg=>⟨.inr (hF g hg).1,(hF g hg).2⟩)).less (fun g hg=>hg.elim (fun h=> .inl (.inl h)) (fun h=>h.elim (fun h=> .inl (.inr h)) .inr))
theorem zz1 (ix sub:Int) (A2:Option Addr) (m c2:Nat) (b:List UInt8) (w:World) (h:zzz w FR lo pw pd pt pv prv qf qr n L V S X odd off) (hlo:lo≤w.heap.size) (hpw:pw < w.heap.size) (hn:n≤1000) (hm:m=b.length) (hc:m≤c2) (hl:m≤35184372088832) (hb:Sl w A2 (b.map bv)) :
 Calls Tryz.prog 25 #[.pointer (some ⟨pt,0,none⟩),.int .i64 ix,.int .i64 sub,.slice A2 m c2] w fun e w'=>e= .returned (.int .u32 (mayC L ix sub b true))∧ zzz w' (FN FR w w') lo pw pd pt pv prv qf qr n L (putV L V ix sub b true) S X odd off∧zcj (fun g=>FR g∧g≠pw) w w':=by
 obtain⟨rj,A,c,FX,As,ns,cs,dx,Al,clt,Avt,cvt,dt,et,Ft,h⟩:= h
 refine (zt5 ix sub A2 m c2 b w h.dr hn hm hc hl hb).mono ?_
 rintro e w' ⟨V',et',rfl,rfl,hD,ho⟩
 have hz:=ho.size
 have hFR:∀ g,Ft g→FR g∧g≠pw:=fun g hg=>⟨(h.inT g hg).1,(h.fr g (h.inT g hg).1).2.2⟩
 have hlt:∀ g,(g=prv∨g=rj∨qr.F g∨FX g)→ g < w.heap.size:=fun g hg=>(h.fr g (h.inR g hg)).2.1
 refine⟨rfl,⟨rj,A,c,FX,As,ns,cs,dx,Al,clt,Avt,cvt,dt,et',fun g=>Ft g∨(w.heap.size≤g∧g < w'.heap.size),(ho.block pw hpw (fun hx=>(hFR pw hx).2 rfl)).trans h.blk,hD.mono (fun g hl hg=>hg.imp id (fun hg=>⟨hg,hl⟩)),h.rv.keep (fun g hg hl=>ho.block g hl (fun hx=>?_)) hz,?_,fun g hg=> .inl (h.inR g hg),?_⟩,ho.mono (fun g _ hg=>hFR g hg)⟩
 · obtain⟨_,k1,k2,k3,k4⟩:= h.inT g hx
   rcases hg with hg | hg | hg | hg
   · exact k1 hg
   · exact k2 hg
   · exact k3 hg
   · exact k4 hg
 · rintro g (hg | hg)
   · obtain⟨k0,k⟩:= h.inT g hg
     exact⟨.inl k0,k⟩
   · exact⟨.inr hg,fun e=>by have:=hlt g (.inl e);omega,fun e=>by have:=hlt g (.inr (.inl e));omega,fun e=>by have:=hlt g (.inr (.inr (.inl e)));omega,fun e=>by have:=hlt g (.inr (.inr (.inr e)));omega⟩
 · rintro g (hg | hg)
   · have:=h.fr g hg;exact⟨this.1,by omega,this.2.2⟩
   · exact⟨by omega,hg.2,by omega⟩
theorem zz2 (w:World) (h:zzz w FR lo pw pd pt pv prv qf qr n L V S X odd off) (hlo:lo≤w.heap.size) (hpw:pw < w.heap.size) (hn:n≤1000) (hX:X.length≤1000) (hfit:fitsV X) :
 Calls Tryz.prog 72 #[.pointer (some ⟨prv,0,none⟩),.pointer (some ⟨pt,0,none⟩)] w fun e w'=>e= .returned (.int .i64 (checkL L X))∧ zzz w' (FN FR w w') lo pw pd pt pv prv qf qr n L (applyV L (L.map Ent.df) X) S X odd off∧zcj (fun g=>FR g∧g≠pw) w w':=by
 obtain⟨rj,A,c,FX,As,ns,cs,dx,Al,clt,Avt,cvt,dt,et,Ft,h⟩:= h
 refine (zyx w h.rv (by rw[h.rv.row.hn];exact hX) hfit h.dr hn (fun g hg=>⟨(h.fr g (h.inT g hg).1).2.1,(h.inT g hg).2.2.2.2,(h.inT g hg).2.1⟩)).mono ?_
 rintro e w' ⟨V',et',rfl,rfl,hD,ho⟩
 have hz:=ho.size
 have hFR:∀ g,Ft g→FR g∧g≠pw:=fun g hg=>⟨(h.inT g hg).1,(h.fr g (h.inT g hg).1).2.2⟩
 have hlt:∀ g,(g=prv∨g=rj∨qr.F g∨FX g)→ g < w.heap.size:=fun g hg=>(h.fr g (h.inR g hg)).2.1
 refine⟨rfl,⟨rj,A,c,FX,As,ns,cs,dx,Al,clt,Avt,cvt,dt,et',fun g=>Ft g∨(w.heap.size≤g∧g < w'.heap.size),(ho.block pw hpw (fun hx=>(hFR pw hx).2 rfl)).trans h.blk,hD.mono (fun g hl hg=>hg.imp id (fun hg=>⟨hg,hl⟩)),h.rv.keep (fun g hg hl=>ho.block g hl (fun hx=>?_)) hz,?_,fun g hg=> .inl (h.inR g hg),?_⟩,ho.mono (fun g _ hg=>hFR g hg)⟩
 · obtain⟨_,k1,k2,k3,k4⟩:= h.inT g hx
   rcases hg with hg | hg | hg | hg
   · exact k1 hg
   · exact k2 hg
   · exact k3 hg
   · exact k4 hg
 · rintro g (hg | hg)
   · obtain⟨k0,k⟩:= h.inT g hg
     exact⟨.inl k0,k⟩
   · exact⟨.inr hg,fun e=>by have:=hlt g (.inl e);omega,fun e=>by have:=hlt g (.inr (.inl e));omega,fun e=>by have:=hlt g (.inr (.inr (.inl e)));omega,fun e=>by have:=hlt g (.inr (.inr (.inr e)));omega⟩
 · rintro g (hg | hg)
   · have:=h.fr g hg;exact⟨this.1,by omega,this.2.2⟩
   · exact⟨by omega,hg.2,by omega⟩
theorem zz3 {l:List SV} {R:JS×FS×Int} {rj:Nat} {A:Option Addr} {c:Nat} {FX:Nat→Prop} {As:Option Addr} {ns cs:Nat} {dx:List (Option Addr×Nat)} {Al:Option Addr} {clt:Nat} {Avt:Option Addr} {cvt:Nat} {dt et:List (Option Addr×Nat)} {Ft:Nat→Prop} {e:Ending}
 (h:RefP w FR lo pw pd pt pv prv rj qf qr n L V S X odd off A c FX As ns cs dx Al clt Avt cvt dt et Ft) (hlo:lo≤w.heap.size) (hpw:pw < w.heap.size) (hk:RStoR prv rj qr FX X l odd off R w e w') :
 e= .returned (.int .u32 (codeV R.2.2:Nat))∧ zzz w' (FN FR w w') lo pw pd pt pv prv qf qr n L V R.2.1 (if R.2.2=0 then l else X) (if R.2.2=0 then false else odd) (off || decide (R.2.2=7))∧ zcj (fun g=>FR g∧g≠pw) w w':=by
 obtain⟨A',c',FX',As',ns',cs',dx',h1,h2,h3,h4⟩:= hk
 have hz:=h4.size
 have hG:∀ g,(g=prv∨g=rj∨qr.F g)→ FR g∧g≠pw:=fun g hg=>by
  have:=h.inR g (hg.imp id (fun h=>h.imp id .inl))
  exact⟨this,(h.fr g this).2.2⟩
 refine⟨h1,⟨rj,A',c',FX',As',ns',cs',dx',Al,clt,Avt,cvt,dt,et,Ft,(h4.block pw hpw (fun hx=>(hG pw hx).2 rfl)).trans h.blk,h.dr.keep (fun g hg hl=>h4.block g hl (fun hx=>?_)),h2,?_,?_,?_⟩,h4.mono (fun g _ hg=>hG g hg)⟩
 · obtain⟨_,k1,k2,k3,_⟩:= h.inT g hg
   rcases hx with hx | hx | hx
   · exact k1 hx
   · exact k2 hx
   · exact k3 hx
 · intro g hg
   obtain⟨k0,k1,k2,k3,k4⟩:= h.inT g hg
   refine⟨.inl k0,k1,k2,k3,fun hx=>?_⟩
   rcases h3 g hx with hx | hx
   · exact k4 hx
   · have:=(h.fr g k0).2.1;omega
 · rintro g (hg | hg | hg | hg)
   · exact .inl (h.inR g (.inl hg))
   · exact .inl (h.inR g (.inr (.inl hg)))
   · exact .inl (h.inR g (.inr (.inr (.inl hg))))
   · exact (h3 g hg).imp (fun k=>h.inR g (.inr (.inr (.inr k)))) id
 · rintro g (hg | hg)
   · have:=h.fr g hg;exact⟨this.1,by omega,this.2.2⟩
   · exact⟨by omega,hg.2,by omega⟩
end
end
end Go.Proofs.YtehabbnohoomjaaGreatDoor
