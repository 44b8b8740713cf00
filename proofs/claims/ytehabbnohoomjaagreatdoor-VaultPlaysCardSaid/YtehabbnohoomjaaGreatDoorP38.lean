/- None -/
import Derived.Test.YtehabbnohoomjaaGreatDoorP37
namespace Go.Proofs.YtehabbnohoomjaaGreatDoor
set_option linter.unusedVariables false
set_option linter.unusedSimpArgs false
set_option linter.unnecessarySimpa false
section
open Go.RowKit
set_option maxRecDepth 20000
set_option maxHeartbeats 8000000
theorem zv0:∀ (L:List SV) (ds:List (Option Addr×Nat)),cellsV L ds=cellsG svF L ds
 | [],_=>by simp[cellsV,cellsG]
 | _ :: _,[]=> by simp[cellsV,cellsG]
 | x :: L,d :: ds=>by rw[zuw,cellsG,zv0 L ds];rfl
theorem zv1 {w:World} {B n c:Nat} {A:Option Addr} {L:List SV} {ds:List (Option Addr×Nat)} (h:znh w B A n c L ds):OwnSV w (fun g=>B≤g∧g < w.heap.size) A n c L ds:=
 ⟨h.hn,h.hd,by rw[← zv0];exact h.own.mono (Nat.zero_le _),h.own.fin,fun j v d h1 h2=>⟨(h.data j v d h1 h2).mono (Nat.zero_le _),(h.data j v d h1 h2).own.fin⟩⟩
structure VD (w:World) (M:Nat) (Fj FL:Nat→Prop) (pv pj:Nat) (q:FP) (A:Option Addr) (n c:Nat) (dj:List (Option Addr×Nat)) (As:Option Addr) (ns cs:Nat) (dx:List (Option Addr×Nat)) (J:JS) (S:FS) (X:List SV) (odd off:Bool):Prop where
 blk:Blk w pv 90 (vauC (.pointer (some ⟨pj,0,none⟩)) (.slice As ns cs) odd off)
 jd:JD w Fj pj q.p A n c J dj
 fd:FD w q S
 row:OwnSV w FL As ns cs X dx
 mv:M≤pv
 fw:∀ g,Fj g∨q.F g→g < w.heap.size∧M≤g∧g≠pv
 lw:∀ g,FL g→g < w.heap.size∧M≤g∧g≠pv∧ ¬ (Fj g∨q.F g)
 dq:∀ g,Fj g→ ¬ q.F g
 sz:ns≤200
 fit:∀ v ∈ X,v.data.length≤2000
section
variable {w w':World} {M pv pj n c ns cs:Nat} {Fj FL:Nat→Prop} {q:FP} {A As:Option Addr} {dj dx:List (Option Addr×Nat)} {J:JS} {S:FS} {X:List SV} {odd off:Bool}
theorem VD.below (h:VD w M Fj FL pv pj q A n c dj As ns cs dx J S X odd off) (hb:Below w.heap.size w w'):VD w' M Fj FL pv pj q A n c dj As ns cs dx J S X odd off:=
 ⟨h.blk.below hb h.blk.lt,h.jd.below hb,h.fd.below hb,h.row.below hb,h.mv,fun g hg=>⟨Nat.lt_of_lt_of_le (h.fw g hg).1 hb.size,(h.fw g hg).2⟩,fun g hg=>⟨Nat.lt_of_lt_of_le (h.lw g hg).1 hb.size,(h.lw g hg).2⟩,h.dq,h.sz,h.fit⟩
theorem VD.only {H:Nat→Prop} (h:VD w M Fj FL pv pj q A n c dj As ns cs dx J S X odd off) (ho:zcj H w w') (hH:∀ g,H g→ ¬ (Fj g∨q.F g∨FL g∨g=pv)):VD w' M Fj FL pv pj q A n c dj As ns cs dx J S X odd off:=
 ⟨(ho.block pv h.blk.lt (fun e=>hH pv e (.inr (.inr (.inr rfl))))).trans h.blk,h.jd.only ho (fun g hg e=>hH g e (.inl hg)),h.fd.only ho (fun g hg e=>hH g e (.inr (.inl hg))),h.row.keep (fun g hg hlt=>ho.block g hlt (fun e=>hH g e (.inr (.inr (.inl hg))))),h.mv,
   fun g hg=>⟨Nat.lt_of_lt_of_le (h.fw g hg).1 ho.size,(h.fw g hg).2⟩,fun g hg=>⟨Nat.lt_of_lt_of_le (h.lw g hg).1 ho.size,(h.lw g hg).2⟩,h.dq,h.sz,h.fit⟩
theorem zv2 (x1:Value) (w:World) (hc:w.cell? ⟨pv,0,none⟩=some (.pointer (some ⟨pj,0,none⟩))):Calls Tryz.prog 53 #[.pointer (some ⟨pv,0,none⟩)] w fun e w'=>e= .returned (.bool true)∧ w=w':=by
 go_enter Tryz.func53,Tryz.ntmps53
 go_wp2_with fail
 go_ret
 exact⟨rfl,rfl⟩
theorem zv4 (w:World) (h:VD w M Fj FL pv pj q A n c dj As ns cs dx J S X odd off):Calls Tryz.prog 20 #[.pointer (some ⟨pv,0,none⟩)] w fun e w'=>e= .returned (.bool odd)∧ w=w':=by
 have hB:=h.blk
 unfold vauC at hB
 obtain⟨hB_c0,hB_c1,hB_c2,hB_c3⟩:= zbi hB
 have hB_f:=hB.frozen
 clear h
 go_enter Tryz.func20,Tryz.ntmps20
 go_wp2_with fail
 refine (zv2 .nilIface _ hB_c0).mono ?_
 rintro e w1 ⟨rfl,rfl⟩
 go_wp2_with fail
 go_ret
 exact⟨rfl,rfl⟩
theorem zv5 (w:World) (h:VD w M Fj FL pv pj q A n c dj As ns cs dx J S X odd off):Calls Tryz.prog 21 #[.pointer (some ⟨pv,0,none⟩)] w fun e w'=>e= .returned (.bool off)∧ w=w':=by
 have hB:=h.blk
 unfold vauC at hB
 obtain⟨hB_c0,hB_c1,hB_c2,hB_c3⟩:= zbi hB
 have hB_f:=hB.frozen
 clear h
 go_enter Tryz.func21,Tryz.ntmps21
 go_wp2_with fail
 refine (zv2 .nilIface _ hB_c0).mono ?_
 rintro e w1 ⟨rfl,rfl⟩
 go_wp2_with fail
 go_ret
 exact⟨rfl,rfl⟩
theorem zv6 (g:Int) (w:World) (hc:w.cell? ⟨pv,0,none⟩=some (.pointer (some ⟨pj,0,none⟩))):Calls Tryz.prog 48 #[.pointer (some ⟨pv,0,none⟩),.int .i64 g] w fun e w'=>e= .returned (.int .u32 (if 1≤g∧g≤4 then 0 else 101253168))∧ w=w':=by
 by_cases h1:g < 1
 · rw[if_neg (by omega)]
   go_enter Tryz.func48,Tryz.ntmps48
   go_wp2_with fail
   refine (zv2 .nilIface _ hc).mono ?_
   rintro e w1 ⟨rfl,rfl⟩
   go_wp2_with fail
   go_ret
   exact⟨rfl,rfl⟩
 · by_cases h2:4 < g
   · rw[if_neg (by omega)]
     go_enter Tryz.func48,Tryz.ntmps48
     go_wp2_with fail
     refine (zv2 .nilIface _ hc).mono ?_
     rintro e w1 ⟨rfl,rfl⟩
     go_wp2_with fail
     go_ret
     exact⟨rfl,rfl⟩
   · rw[if_pos (by omega)]
     go_enter Tryz.func48,Tryz.ntmps48
     go_wp2_with fail
     refine (zv2 .nilIface _ hc).mono ?_
     rintro e w1 ⟨rfl,rfl⟩
     go_wp2_with fail
     go_ret
     exact⟨rfl,rfl⟩
theorem zv7 (w:World) (h:VD w M Fj FL pv pj q A n c dj As ns cs dx J S X odd off):Calls Tryz.prog 17 #[.pointer (some ⟨pv,0,none⟩)] w (fun e w'=> ∃ A' n' c' ds,e= .returned (.slice A' n' c')∧ znh w' w.heap.size A' n' c' (dropL X 0) ds∧Below w.heap.size w w'):= by
 have hB:=h.blk
 unfold vauC at hB
 obtain⟨hB_c0,hB_c1,hB_c2,hB_c3⟩:= zbi hB
 have hB_f:=hB.frozen
 have HD:=zak (zny As ns cs X 0 w h.row.hn h.row.own.le (by have:=h.sz;omega) h.row.slV (fun v hv=>by have:=h.fit v hv;omega))
 clear h
 go_enter Tryz.func17,Tryz.ntmps17
 go_wp2_with fail
 refine (zv2 .nilIface _ hB_c0).mono ?_
 rintro e w1 ⟨rfl,rfl⟩
 go_wp2_with fail
 refine HD.out.mono ?_
 rintro e w1 ⟨A',n',c',ds,rfl,hO,hb⟩
 go_wp2_with fail
 go_ret
 exact⟨A',n',c',ds,rfl,hO,hb⟩
end
end
section
open Go.RowKit
def ValsP (L:List Ent) (V:List (List UInt8)):Prop:= ∀ (j:Nat) E v,L[j]? =some E→V[j]? =some v→valC E v=0
theorem zv8 {E:Ent} (h:rightE E=0):valC E E.df=0:=by
 unfold rightE at h
 unfold valC
 split at h
 · omega
 split at h
 · omega
 split at h
 · omega
 split at h
 · omega
 split at h
 · omega
 split at h
 · omega
 · rename_i hh;simpa using hh
theorem zv9 {L:List Ent} (h:∀ E ∈ L,rightE E=0):ValsP L (L.map Ent.df):= by
 intro j E v hE hv
 rw[List.getElem?_map,hE] at hv
 simp at hv
 subst hv
 exact zv8 (h E (List.mem_of_getElem? hE))
theorem zwa {L:List Ent} {ix sub:Int} {b:List UInt8} {any:Bool} (h:mayC L ix sub b any=0):valC (entK L (locK L ix sub)) b=0:=by
 unfold mayC at h
 split at h
 · split at h
   · rename_i h1 h2;exact absurd h h2.2
   · exact h
 · rename_i h1;exact absurd h h1
theorem zwb {L:List Ent} (hs:SortedE L) {V:List (List UInt8)} (hV:V.length=L.length) (h:ValsP L V) (ix sub:Int) (b:List UInt8) (any:Bool):ValsP L (putV L V ix sub b any):= by
 intro j E v hE hv
 rw[zp2 hs hV hE] at hv
 split at hv
 · rename_i hp
   injection hv with hv
   subst hv
   have h1:=zwa hp.2.2
   rw[(zpz hs hE ⟨hp.1,hp.2.1⟩).1,zpl hE] at h1
   exact h1
 · exact h j E v hE hv
end
section
open Go.RowKit
theorem zwc {L:List Ent} {V:List (List UInt8)} {g:Int} {v:SV} (h:v ∈ ofV L V g):∃ (k:Nat) (E:Ent) (u:List UInt8),L[k]? =some E∧V[k]? =some u∧E.st=true∧v=⟨E.ix,E.sub,u⟩:= by
 induction L generalizing V with
 | nil=>cases V<;>simp[ofV] at h
 | cons E L ih=>
   cases V with
   | nil=>simp[ofV] at h
   | cons u V=>
     rw[ofV] at h
     split at h
     · rename_i hs
       rcases List.mem_cons.1 h with rfl | h
       · exact⟨0,E,u,rfl,rfl,hs.1,rfl⟩
       · obtain⟨k,E',u',h1,h2,h3,h4⟩:= ih h
         exact⟨k+1,E',u',by simpa using h1,by simpa using h2,h3,h4⟩
     · obtain⟨k,E',u',h1,h2,h3,h4⟩:= ih h
       exact⟨k+1,E',u',by simpa using h1,by simpa using h2,h3,h4⟩
def OfP (L:List Ent) (V:List (List UInt8)) (v:SV):Prop:= ∃ (k:Nat) (E:Ent) (u:List UInt8),L[k]? =some E∧V[k]? =some u∧E.st=true∧valC E u=0∧v=⟨E.ix,E.sub,u⟩
theorem of_P {L:List Ent} {V:List (List UInt8)} (hv:ValsP L V) (g:Int):∀ v ∈ ofV L V g,OfP L V v:=by
 intro v h
 obtain⟨k,E,u,h1,h2,h3,h4⟩:= zwc h
 exact⟨k,E,u,h1,h2,h3,hv k E u h1 h2,h4⟩
theorem zwd {L:List Ent} (hs:SortedE L) {V:List (List UInt8)} (hV:V.length=L.length) (h:ValsP L V) (X:List SV):ValsP L (pokeAll L V X):= by
 unfold pokeAll
 induction X generalizing V with
 | nil=>exact h
 | cons v X ih=>rw[List.foldl_cons];exact ih (by rw[zpj];exact hV) (zwb hs hV h _ _ _ _)
end
section
open Go.RowKit
set_option maxRecDepth 20000
set_option maxHeartbeats 8000000
theorem zwe:∀ {L:List SV} {v u:SV},u ∈ insV L v→u=v∨u ∈ L
 | [],v,u,h=>by simp[insV] at h;exact .inl h
 | x :: L,v,u,h=>by
   rw[insV] at h
   split at h
   · rcases List.mem_cons.1 h with rfl | h
     · exact .inr (List.mem_cons_self ..)
     · exact (zwe h).imp id (List.mem_cons_of_mem _)
   · split at h
     · exact (List.mem_cons.1 h).imp id id
     · exact (List.mem_cons.1 h).imp id (List.mem_cons_of_mem _)
theorem zwf:∀ {X L:List SV} {u:SV},u ∈ X.foldl insV L→u ∈ X∨u ∈ L
 | [],L,u,h=> .inr h
 | v :: X,L,u,h=>by
   rcases zwf (X:=X) (L:=insV L v) h with h | h
   · exact .inl (List.mem_cons_of_mem _ h)
   · exact (zwe h).elim (fun e=> .inl (by rw[e];exact List.mem_cons_self ..)) .inr
theorem zwg {a b:List SV} {u:SV} (h:u ∈ joinV a b):u ∈ a∨u ∈ b:=by
 rcases zwf h with h | h
 · exact .inr h
 · exact (zwf h).imp id (fun h=>by cases h)
theorem zwh:∀ (l:List SV),5 * l.length≤(l.flatMap vbytes).length
 | []=> by simp
 | v :: l=>by have h1:=zwh l;have h2:=zno v;simp only[List.flatMap_cons,List.length_append,List.length_cons];omega
theorem zwi:∀ (l:List SV) (v:SV),v ∈ l→v.data.length≤(l.flatMap vbytes).length
 | [],v,h=>by cases h
 | x :: l,v,h=>by
   have h2:=zno x
   simp only[List.flatMap_cons,List.length_append]
   rcases List.mem_cons.1 h with rfl | h
   · omega
   · have:=zwi l v h;omega
theorem zwj {l:List SV} {b:List UInt8} (h:BuildR l b 0):l.length≤192∧(∀ v ∈ l,v.data.length≤960):= by
 rcases h with ⟨h,_⟩ | ⟨_,h | h⟩
 · exact absurd rfl h
 · have:=h.2.2;omega
 · have h1:=zwh l
   exact⟨by omega,fun v hv=>by have:=zwi l v hv;omega⟩
theorem zwk {J:JS} {S:FS} {kd:Int} {l:List SV} {R:JS×FS×Int} (h:WrP J S kd l R) (h0:R.2.2=0):∃ b,BuildR l b 0∧R=appJ J S kd b:=by
 obtain⟨b,er,hb,⟨h1,rfl⟩ | ⟨rfl,h2⟩⟩:= h
 · exact absurd h0 h1
 · exact⟨b,hb,h2⟩
def KeepV (M:Nat) (Fj FL:Nat→Prop) (pv pj:Nat) (q:FP) (A:Option Addr) (n c:Nat) (J:JS) (S:FS) (X:List SV) (odd off:Bool) (kd:Int) (l:List SV) (w:World) (e:Ending) (w':World):Prop:=
 ∃ (R:JS×FS×Int) (dj':List (Option Addr×Nat)) (Fj' FL':Nat→Prop) (As':Option Addr) (ns' cs':Nat) (dx':List (Option Addr×Nat)),WrP J S kd l R∧e= .returned (.int .u32 (codeV R.2.2:Nat))∧
  VD w' M Fj' FL' pv pj q A n c dj' As' ns' cs' dx' R.1 R.2.1 (if R.2.2=0 then l else X) (if R.2.2=0 then false else odd) (off || decide (R.2.2=7))∧ zcj (fun g=>Fj g∨q.F g∨g=pv) w w'∧
  (∀ g,Fj' g∨FL' g→Fj g∨FL g∨(w.heap.size≤g∧g < w'.heap.size))
section
variable {w w':World} {M pv pj n c ns cs:Nat} {Fj FL:Nat→Prop} {q:FP} {A As:Option Addr} {dj dx:List (Option Addr×Nat)} {J:JS} {S:FS} {X:List SV} {odd off:Bool}
theorem zwl (a:Nat→Addr) (kd:Int) (w w2:World) (h:VD w2 M Fj FL pv pj q A n c dj As ns cs dx J S X odd off) (hw:Below w.heap.size w w2) (hFw:∀ g,Fj g∨q.F g∨FL g∨g=pv→g < w.heap.size) (hG:GV w2 a M) (hM:M≤w.heap.size) (hrun:RunJ J S) (hops:S.ops+2000 < 4611686018427387904)
 {Al:Option Addr} {nl cl:Nat} {l:List SV} {dl:List (Option Addr×Nat)} {FN:Nat→Prop} (hO:OwnSV w2 FN Al nl cl l dl) (hFN:∀ g,FN g→w.heap.size≤g∧g < w2.heap.size) (hl:nl≤1000) (hf:fitsV l) :
 Calls Tryz.prog 49 #[.pointer (some ⟨pv,0,none⟩),.int .i64 kd,.slice Al nl cl] w2 (KeepV M Fj FL pv pj q A n c J S X odd off kd l w):= by
 refine (zod a M pv (.slice As ns cs) odd off kd Al nl cl l w2 hG (Nat.le_trans hM hw.size) h.mv h.blk h.jd h.fd h.dq hrun hops (fun g hg=>h.fw g hg) hO.hn hO.own.le hl hO.slV hf).mono ?_
 rintro e w3 ⟨R,ds',hW,rfl,hB,hJ,hF,ho⟩
 have hfn:∀ g,FN g→ ¬ (Fj g∨q.F g∨g=pv):= fun g hg hx=>by
  have h1:=(hFN g hg).1
  have h2:=hFw g (hx.elim .inl (fun hx=>hx.elim (fun h=> .inr (.inl h)) (fun h=> .inr (.inr (.inr h)))))
  omega
 have hsz:=ho.size
 have hwsz:=hw.size
 have hJ':JD w3 (fun g=>Fj g∨(w2.heap.size≤g∧g < w3.heap.size)) pj q.p A n c R.1 ds':=hJ.mono (fun g hlt hg=>hg.imp id (fun hg=>⟨hg,hlt⟩))
 have hfw:∀ g,(Fj g∨(w2.heap.size≤g∧g < w3.heap.size))∨ q.F g→g < w3.heap.size∧M≤g∧g≠pv:=by
  rintro g ((hg | hg) | hg)
  · exact⟨Nat.lt_of_lt_of_le (h.fw g (.inl hg)).1 hsz,(h.fw g (.inl hg)).2⟩
  · have:=h.blk.lt
    exact⟨hg.2,by omega,by omega⟩
  · exact⟨Nat.lt_of_lt_of_le (h.fw g (.inr hg)).1 hsz,(h.fw g (.inr hg)).2⟩
 have hdq:∀ g,(Fj g∨(w2.heap.size≤g∧g < w3.heap.size))→ ¬ q.F g:=by
  rintro g (hg | hg) hx
  · exact h.dq g hg hx
  · have:=(h.fw g (.inr hx)).1
    omega
 have hOn:zcj (fun g=>Fj g∨q.F g∨g=pv) w w3:=(zcj.of_below hw).trans ho (fun _ _ h=>h)
 by_cases h0:R.2.2=0
 · obtain⟨b,hb,hR⟩:= zwk hW h0
   obtain⟨hb1,hb2⟩:= zwj hb
   refine⟨R,ds',(fun g=>Fj g∨(w2.heap.size≤g∧g < w3.heap.size)),FN,Al,nl,cl,dl,hW,rfl,?_,hOn,?_⟩
   · rw[if_pos h0,if_pos h0] at hB ⊢
     refine⟨hB,hJ',hF,hO.keep (fun g hg hlt=>ho.block g hlt (hfn g hg)),h.mv,hfw,?_,hdq,by have:=hO.hn;omega,fun v hv=>by have:=hb2 v hv;omega⟩
     intro g hg
     have h1:=hFN g hg
     refine⟨by omega,by omega,fun e=>hfn g hg (.inr (.inr e)),?_⟩
     rintro ((hx | hx) | hx)
     · exact hfn g hg (.inl hx)
     · omega
     · exact hfn g hg (.inr (.inl hx))
   · rintro g ((hg | hg) | hg)
     · exact .inl hg
     · exact .inr (.inr ⟨by omega,hg.2⟩)
     · have:=hFN g hg
       exact .inr (.inr ⟨by omega,by omega⟩)
 · refine⟨R,ds',(fun g=>Fj g∨(w2.heap.size≤g∧g < w3.heap.size)),FL,As,ns,cs,dx,hW,rfl,?_,hOn,?_⟩
   · rw[if_neg h0,if_neg h0] at hB ⊢
     refine⟨hB,hJ',hF,h.row.keep (fun g hg hlt=>ho.block g hlt (by
      have h1:=h.lw g hg
      rintro (hx | hx | hx)
      · exact h1.2.2.2 (.inl hx)
      · exact h1.2.2.2 (.inr hx)
      · exact h1.2.2.1 hx)),h.mv,hfw,?_,hdq,h.sz,h.fit⟩
     intro g hg
     have h1:=h.lw g hg
     refine⟨by omega,h1.2.1,h1.2.2.1,?_⟩
     rintro ((hx | hx) | hx)
     · exact h1.2.2.2 (.inl hx)
     · omega
     · exact h1.2.2.2 (.inr hx)
   · rintro g ((hg | hg) | hg)
     · exact .inl hg
     · exact .inr (.inr ⟨by omega,hg.2⟩)
     · exact .inr (.inl hg)
theorem zwm (a:Nat→Addr) (gr:Int) (w:World) (h:VD w M Fj FL pv pj q A n c dj As ns cs dx J S X odd off) (hG:GV w a M) (hM:M≤w.heap.size) (hrun:RunJ J S) (hops:S.ops+2000 < 4611686018427387904) (h1:1≤gr∧gr≤4)
 {Fd:Nat→Prop} {pd gl nd cl cv:Nat} {Av:Option Addr} {L:List Ent} {V:List (List UInt8)} {ds es:List (Option Addr×Nat)} (hD:DB 102 w Fd pd (some ⟨gl,0,none⟩) nd cl Av cv L V ds es) (hnd:nd≤200) (hVl:∀ v ∈ V,v.length≤2000) :
 Calls Tryz.prog 14 #[.pointer (some ⟨pv,0,none⟩),.pointer (some ⟨pd,0,none⟩),.int .i64 gr] w (KeepV M Fj FL pv pj q A n c J S X odd off 1 (joinV (dropL X gr) (ofV L V gr)) w):= by
 have HH:=zak h
 have hB:=h.blk
 unfold vauC at hB
 obtain⟨hB_c0,hB_c1,hB_c2,hB_c3⟩:= zbi hB
 have hB_f:=hB.frozen
 have HG:=zak hG
 have HM:=zak hM
 have HRN:=zak hrun
 have HOP:=zak hops
 have HCK:=zak (zv6 (pv:=pv) (pj:=pj) gr w hB_c0)
 rw[if_pos h1] at HCK
 have HDR:=zak (zny As ns cs X gr w h.row.hn h.row.own.le (by have:=h.sz;omega) h.row.slV (fun v hv=>by have:=h.fit v hv;omega))
 have HOF:=zak (fun W (hb:Below w.heap.size w W)=> ztz gr W (hD.below hb) (show nd≤1000 by omega))
 have HL1:Hid (lightB (dropL X gr)=true):= zak (by
  unfold lightB
  have hx:=h.row.hn
  have hs:=h.sz
  have hl:(dropL X gr).length≤X.length:=List.length_filter_le _ _
  exact decide_eq_true ⟨by omega,fun v hv=>h.fit v (List.mem_filter.1 hv).1⟩)
 have HL2:Hid (lightB (ofV L V gr)=true):= zak (by
  unfold lightB
  have hl:=zud L V gr
  have hx:=hD.ents.hn
  refine decide_eq_true ⟨by omega,fun v hv=>?_⟩
  obtain⟨k,E,u,_,hu,_,rfl⟩:= zwc hv
  exact hVl u (List.mem_of_getElem? hu))
 have HFW:Hid (∀ g,Fj g∨q.F g∨FL g∨g=pv→g < w.heap.size):= zak (by
  rintro g (hg | hg | hg | rfl)
  · exact (h.fw g (.inl hg)).1
  · exact (h.fw g (.inr hg)).1
  · exact (h.lw g hg).1
  · exact h.blk.lt)
 obtain⟨R0,hR0⟩:∃ R0,R0=KeepV M Fj FL pv pj q A n c J S X odd off 1 (joinV (dropL X gr) (ofV L V gr)) w:=⟨_,rfl⟩
 rw[← hR0]
 have HR:=zak hR0
 clear h hG hM hrun hops h1 hD hnd hVl hR0
 go_enter Tryz.func14,Tryz.ntmps14
 go_wp2_with fail
 refine HCK.out.mono ?_
 rintro e w1 ⟨rfl,rfl⟩
 go_wp2_with fail
 refine HDR.out.mono ?_
 rintro e w1 ⟨A1,n1,c1,ds1,rfl,hO1,hb1⟩
 have HO1:=zak hO1
 have HB1:=zak hb1
 clear hO1 hb1
 go_wp2_with fail
 refine (HOF.out _ HB1.out).mono ?_
 rintro e w2 ⟨A2,n2,c2,ds2,rfl,hO2,hb2⟩
 have HO2:=zak hO2
 have HB2:=zak (zbd hb2 HB1.out)
 have HO1':=zak (HO1.out.below hb2)
 clear hO2 hb2
 go_wp2_with fail
 refine (zvu A1 n1 c1 (dropL X gr) A2 n2 c2 (ofV L V gr) _ HO1'.out.hn HO1'.out.slV HO2.out.hn HO2.out.slV HL1.out HL2.out).mono ?_
 rintro e w3 ⟨A3,n3,c3,ds3,rfl,hO3,hb3⟩
 have HO3:=zak hO3
 have HB3:=zak (zbd hb3 HB2.out)
 have hjl:=zuq (dropL X gr) (ofV L V gr)
 have hj1:=(of_decide_eq_true HL1.out:(dropL X gr).length≤200∧_).1
 have hj2:=(of_decide_eq_true HL2.out:(ofV L V gr).length≤200∧_).1
 have HN3:Hid (n3≤1000):= zak (by have:=hO3.hn;omega)
 have HS2:=zak (And.intro HB2.out.size hb3.size)
 clear hO3 hb3 hjl hj1 hj2
 go_wp2_with fail
 refine (zwl a 1 w _ (HH.out.below HB3.out) HB3.out HFW.out (HG.out.below HB3.out) HM.out HRN.out HOP.out (zv1 HO3.out) (fun g hg=>⟨by have:=HS2.out.1;omega,hg.2⟩) HN3.out (fun v hv=>by
  rcases zwg hv with h | h
  · have:=(of_decide_eq_true HL1.out:(dropL X gr).length≤200∧ ∀ v ∈ dropL X gr,v.data.length≤2000).2 v h
    omega
  · have:=(of_decide_eq_true HL2.out:(ofV L V gr).length≤200∧ ∀ v ∈ ofV L V gr,v.data.length≤2000).2 v h
    omega)).mono ?_
 rintro e w4 hK
 obtain⟨R,dj',Fj',FL',As',ns',cs',dx',hW,rfl,hrest⟩:= hK
 have HX:=zak (And.intro hW hrest)
 clear hW hrest
 go_wp2_with fail
 rw[HR.out]
 exact⟨R,dj',Fj',FL',As',ns',cs',dx',HX.out.1,rfl,HX.out.2⟩
end
end
section
open Go.RowKit
set_option maxRecDepth 100000
set_option maxHeartbeats 4000000
section
variable {F:Nat→Prop} {p n cl cv:Nat} {Av:Option Addr} {L:List Ent} {V:List (List UInt8)} {ds es:List (Option Addr×Nat)} {gl:Nat}
def ResetR (F:Nat→Prop) (p gl n cl:Nat) (Av:Option Addr) (cv:Nat) (L:List Ent) (ds:List (Option Addr×Nat)) (w:World) (e:Ending) (w':World):Prop:=
 ∃ es',e= .returned (.tuple #[])∧ DB 102 w' (fun g=>F g∨w.heap.size≤g) p (some ⟨gl,0,none⟩) n cl Av cv L (L.map Ent.df) ds es'∧zcj F w w'
theorem zwn (w:World) (hD:DB 102 w F p (some ⟨gl,0,none⟩) n cl Av cv L V ds es) (hn:n≤1000) :
 Calls Tryz.prog 54 #[.pointer (some ⟨p,0,none⟩)] w (ResetR F p gl n cl Av cv L ds w):= by
 have HD:=zak hD
 have HN:=zak hD.ents.hn
 have HLV:=zak hD.lenV
 have hB:=hD.blk
 clear hD
 go_enter Tryz.func54,Tryz.ntmps54
 go_wp2_with fail
 refine (zql _ hB).mono ?_
 rintro e w1 ⟨rfl,rfl⟩
 clear hB
 go_wp2_with fail
 go_loopw [5] (fun i wr=> ∃ k es',k≤n∧i= .int .i64 (k:Nat)∧ Hid (DB 102 wr (fun g=>F g∨w.heap.size≤g) p (some ⟨gl,0,none⟩) n cl Av cv L (rsV L V k) ds es')∧ Hid (zcj F w wr)) (fun i _=>n - (intOf i).toNat)
 case atStart=>exact⟨0,es,by omega,rfl,zak (by rw[zpu];exact HD.out.mono (fun g _ h=> .inl h)),zak (zcj.refl _ _)⟩
 case round=>
  obtain⟨k,es',hk,rfl,HDr,HOr⟩:= hrel
  by_cases hlt:k < n
  · obtain⟨E,hE⟩:∃ E,L[k]? =some E:=⟨L[k]'(by rw[← HN.out];exact hlt),List.getElem?_eq_getElem _⟩
    obtain⟨v,hv⟩:∃ v,(rsV L V k)[k]? =some v:=⟨(rsV L V k)[k]'(by rw[zpx HLV.out,← HN.out];exact hlt),List.getElem?_eq_getElem _⟩
    obtain⟨g,d,hA,zg,_,hOd,hfit,_,_,_,_,_,_,_,_,_,_,c10⟩:= HDr.out.ent hE
    injection hA with hA
    injection hA with hA
    subst hA
    obtain⟨gv,dv,hAv,zv,_,_,_,cv0,cf0,hFv⟩:= HDr.out.val hv
    subst hAv
    have hB2:=HDr.out.blk
    have zp:=hB2.lt
    obtain⟨hB2_c0,hB2_c1⟩:= zbg hB2
    have hB2_f:=hB2.frozen
    have HS:=zak hOd.sl
    have HF:=zak hfit.1
    have HT:=zak (zpt hE HLV.out)
    have HFV:=zak hFv
    obtain⟨i1,i2,i3⟩:= zbr hlt
    have hne1:gv≠p:=fun h=>zcm hB2 HDr.out.vals.own (by decide) (by rw[h];rfl)
    have hne2:gv≠gl:=by
     have:=zcl HDr.out.ents.own HDr.out.vals.own (by decide) gl rfl
     simp[Value.ownBlock] at this
     omega
    clear hE hv hOd hfit hFv
    go_wp2_with fail
    refine wp_region_held_drew (S:=(fun w'=>w'.cell? ⟨p,0,none⟩=some (.slice (some ⟨gl,0,none⟩) n cl)∧ w'.cell? ⟨p,1,none⟩=some (.slice (some ⟨gv,0,none⟩) n cv)∧ w'.cell? ⟨gl,k * 11+10,none⟩=some (.slice d.1 E.df.length d.2))) (by kernel_rfl) ?hS1 (fun hHeld=>?rest1)
    case hS1=>((try dsimp only);(exact⟨hB2_c0,hB2_c1,c10⟩))
    case' rest1=>skip
    iterate 13 (refine tkN ?_;try simp only[PqL,Act.put])
    refine wpAnyH_ready (rs:= [13]) (by kernel_rfl) (by simp) ?_
    refine AllReadyH.cons (o:=_) rfl (fun K hK=>?_) .nil
    go_simp
    refine (zqj d.1 E.df.length d.2 E.df _ rfl HF.out HS.out.drew).mono ?_
    rintro e w2 ⟨A3,c3,rfl,hO3,hb3⟩
    dsimp only
    have e0:=(hb3.cell (p:=⟨p,0,none⟩) zp).trans hB2_c0
    have e1:=(hb3.cell (p:=⟨p,1,none⟩) zp).trans hB2_c1
    have e2:=(hb3.cell (p:=⟨gl,k * 11+10,none⟩) zg).trans c10
    refine hK.out _ _ ?hS17 (fun hHeld=>?rest17)
    case hS17=>((try dsimp only);(exact⟨e0,e1,e2⟩))
    case' rest17=>(clear hK K;try simp only[PqL,Act.put])
    have hf3:w2.frozen? ⟨gv,k,none⟩=false:=(hb3.frozen (p:=⟨gv,k,none⟩) zv).trans cf0
    have hc3:=(hb3.cell (p:=⟨gv,k,none⟩) zv).trans cv0
    refine tkH 14 ?_
    try simp only[PqL,Act.put]
    refine wpAnyH_ready (rs:= [15]) (by kernel_rfl) (by simp) ?_
    refine AllReadyH.cons (o:=_) rfl (fun K hK=>?_) .nil
    go_simp
    refine hK.out _ _ ?hS21 (fun hHeld=>?rest21)
    case hS21=>((try dsimp only);(exact⟨(World.cell?_setCell_far _ _ _ _ hne1).trans e0,(World.cell?_setCell_far _ _ _ _ hne1).trans e1,(World.cell?_setCell_far _ _ _ _ hne2).trans e2⟩))
    case' rest21=>(clear hK K;try simp only[PqL,Act.put])
    refine wpAnyH_done (by kernel_rfl) ?_ _
    have hEnd:=hHeld.2
    repeat (clear hHeld)
    have hb4:Below wr.heap.size wr w2:=⟨hb3.os,hb3.tape,hb3.output,hb3.size,hb3.block⟩
    have hz:=HOr.out.size
    have HD3:=zak (DB.store (T:=102) (HDr.out.below hb4) (by decide) hlt (hO3.mono (Nat.zero_le _)) (hO3.own.fin.mono (fun g h=> .inr (Nat.le_trans hz h.1))) HF.out)
    rw[HT.out] at HD3
    have HO3:Hid (zcj F w (w2.setCell ⟨gv,k,none⟩ (.slice A3 E.df.length c3))):= zak ((HOr.out.step hb4).trans (zcj.of_set (F:=fun g=>F g∨w.heap.size≤g) HFV.out _) (fun i hi h=>by
     rcases h with h | h
     · exact h
     · omega))
    go_wp2_with fail
    go_roundw
    case rel=>exact⟨k+1,_,by omega,by go_num,HD3,HO3⟩
    case measure=>simp[intOf];omega
  · go_wp2_with fail
    have hkn:k=n:=by omega
    go_end0
    refine⟨es',rfl,?_,HOr.out⟩
    have:=HDr.out
    rw[zpv HLV.out (by rw[hkn,HN.out])] at this
    exact this
end
end
section
open Go.RowKit
set_option maxRecDepth 20000
set_option maxHeartbeats 8000000
section
variable {w w':World} {M pv pj n c ns cs:Nat} {Fj FL:Nat→Prop} {q:FP} {A As:Option Addr} {dj dx:List (Option Addr×Nat)} {J:JS} {S:FS} {X:List SV} {odd off:Bool}
theorem vd_fw (h:VD w M Fj FL pv pj q A n c dj As ns cs dx J S X odd off):∀ g,Fj g∨q.F g∨FL g∨g=pv→g < w.heap.size:=by
 rintro g (hg | hg | hg | rfl)
 · exact (h.fw g (.inl hg)).1
 · exact (h.fw g (.inr hg)).1
 · exact (h.lw g hg).1
 · exact h.blk.lt
theorem zwo (gr:Int) (p:Option Addr) (w:World) (h:VD w M Fj FL pv pj q A n c dj As ns cs dx J S X odd off) (h1: ¬ (1≤gr∧gr≤4)):Calls Tryz.prog 14 #[.pointer (some ⟨pv,0,none⟩),.pointer p,.int .i64 gr] w fun e w'=>e= .returned (.int .u32 101253168)∧ w=w':=by
 have hB:=h.blk
 unfold vauC at hB
 obtain⟨hB_c0,hB_c1,hB_c2,hB_c3⟩:= zbi hB
 have hB_f:=hB.frozen
 have HCK:=zak (zv6 (pv:=pv) (pj:=pj) gr w hB_c0)
 rw[if_neg h1] at HCK
 clear h h1
 go_enter Tryz.func14,Tryz.ntmps14
 go_wp2_with fail
 refine HCK.out.mono ?_
 rintro e w1 ⟨rfl,rfl⟩
 go_wp2_with fail
 go_ret
 exact⟨rfl,rfl⟩
theorem zwp (a:Nat→Addr) (gr:Int) (w:World) (h:VD w M Fj FL pv pj q A n c dj As ns cs dx J S X odd off) (hG:GV w a M) (hM:M≤w.heap.size) (hrun:RunJ J S) (hops:S.ops+2000 < 4611686018427387904) (h1:1≤gr∧gr≤4) :
 Calls Tryz.prog 16 #[.pointer (some ⟨pv,0,none⟩),.int .i64 gr] w (KeepV M Fj FL pv pj q A n c J S X odd off (if (dropL X gr).length=0 then 2 else 1) (dropL X gr) w):= by
 have HH:=zak h
 have hB:=h.blk
 unfold vauC at hB
 obtain⟨hB_c0,hB_c1,hB_c2,hB_c3⟩:= zbi hB
 have hB_f:=hB.frozen
 have HG:=zak hG
 have HM:=zak hM
 have HRN:=zak hrun
 have HOP:=zak hops
 have HCK:=zak (zv6 (pv:=pv) (pj:=pj) gr w hB_c0)
 rw[if_pos h1] at HCK
 have HDR:=zak (zny As ns cs X gr w h.row.hn h.row.own.le (by have:=h.sz;omega) h.row.slV (fun v hv=>by have:=h.fit v hv;omega))
 have HFW:=zak (vd_fw h)
 have HFI:Hid (fitsV (dropL X gr)):= zak (fun v hv=>by have:=h.fit v (List.mem_filter.1 hv).1;omega)
 have HLL:Hid ((dropL X gr).length≤200):= zak (by
  have hx:=h.row.hn
  have hs:=h.sz
  have hl:(dropL X gr).length≤X.length:=List.length_filter_le _ _
  omega)
 obtain⟨R0,hR0⟩:∃ R0,R0=KeepV M Fj FL pv pj q A n c J S X odd off (if (dropL X gr).length=0 then 2 else 1) (dropL X gr) w:=⟨_,rfl⟩
 rw[← hR0]
 have HR:=zak hR0
 clear h hG hM hrun hops h1 hR0
 go_enter Tryz.func16,Tryz.ntmps16
 go_wp2_with fail
 refine HCK.out.mono ?_
 rintro e w1 ⟨rfl,rfl⟩
 go_wp2_with fail
 refine HDR.out.mono ?_
 rintro e w1 ⟨A1,n1,c1,ds1,rfl,hO1,hb1⟩
 have HO1:=zak hO1
 have HB1:=zak hb1
 by_cases h0:n1=0
 · have HE:Hid (dropL X gr= []):= zak (List.eq_nil_of_length_eq_zero (by rw[← hO1.hn];exact h0))
   clear hO1 hb1
   subst h0
   go_wp2_with fail
   refine (zwl a 2 w _ (HH.out.below HB1.out) HB1.out HFW.out (HG.out.below HB1.out) HM.out HRN.out HOP.out (zcq.nil (f:=svF) (k:=3) (e:=52) (dat:=SV.data) w1 (fun _=>False)) (fun g hg=>hg.elim) (by omega) (fun v hv=>by cases hv)).mono ?_
   rintro e w4 hK
   obtain⟨R,dj',Fj',FL',As',ns',cs',dx',hW,rfl,hrest⟩:= hK
   have HX:=zak (And.intro hW hrest)
   clear hW hrest
   go_wp2_with fail
   rw[HR.out,HE.out]
   exact⟨R,dj',Fj',FL',As',ns',cs',dx',HX.out.1,rfl,HX.out.2⟩
 · have HE:Hid ((if (dropL X gr).length=0 then (2:Int) else 1)=1):= zak (by rw[if_neg (by rw[← hO1.hn];exact h0)])
   have z0:((n1:Int) == 0)=false:=by simp;omega
   have hn1:n1≤1000:=by have:=hO1.hn;have:=HLL.out;omega
   have HN1:=zak hn1
   clear hO1 hb1 h0 hn1
   go_wp2_with fail
   refine (zwl a 1 w _ (HH.out.below HB1.out) HB1.out HFW.out (HG.out.below HB1.out) HM.out HRN.out HOP.out (zv1 HO1.out) (fun g hg=>hg) HN1.out HFI.out).mono ?_
   rintro e w4 hK
   obtain⟨R,dj',Fj',FL',As',ns',cs',dx',hW,rfl,hrest⟩:= hK
   have HX:=zak (And.intro hW hrest)
   clear hW hrest
   go_wp2_with fail
   rw[HR.out,HE.out]
   exact⟨R,dj',Fj',FL',As',ns',cs',dx',HX.out.1,rfl,HX.out.2⟩
theorem zwq (w:World) (h:VD w M Fj FL pv pj q A n c dj As ns cs dx J S X odd off)
 {Fd:Nat→Prop} {pd gl nd cl cv:Nat} {Av:Option Addr} {L:List Ent} {V:List (List UInt8)} {ds es:List (Option Addr×Nat)} (hD:DB 102 w Fd pd (some ⟨gl,0,none⟩) nd cl Av cv L V ds es) (hs:SortedE L) (hnd:nd≤1000) (hdj:∀ g,Fd g→g < w.heap.size∧ ¬ (FL g∨g=pv)) :
 Calls Tryz.prog 15 #[.pointer (some ⟨pv,0,none⟩),.pointer (some ⟨pd,0,none⟩)] w fun e w'=> ∃ V' es',e= .returned (.int .i64 (checkL L X))∧ V'=applyV L (L.map Ent.df) X∧DB 102 w' (fun g=>Fd g∨w.heap.size≤g) pd (some ⟨gl,0,none⟩) nd cl Av cv L V' ds es'∧zcj Fd w w':=by
 have HH:=zak h
 have hB:=h.blk
 unfold vauC at hB
 obtain⟨hB_c0,hB_c1,hB_c2,hB_c3⟩:= zbi hB
 have hB_f:=hB.frozen
 have HRS:=zak (zwn w hD hnd)
 have HS:=zak hs
 have HDJ:=zak hdj
 have HSZ:=zak (show ns≤1000 by have:=h.sz;omega)
 have HND:=zak hnd
 have hpv:=h.blk.lt
 clear h hD hs hdj hnd
 go_enter Tryz.func15,Tryz.ntmps15
 go_wp2_with fail
 refine (zv2 .nilIface _ hB_c0).mono ?_
 rintro e w1 ⟨rfl,rfl⟩
 go_wp2_with fail
 refine HRS.out.mono ?_
 rintro e w1 ⟨es1,rfl,hD1,ho1⟩
 have kv:=(ho1.block pv hpv (fun e=>(HDJ.out pv e).2 (.inr rfl))).trans HH.out.blk
 have x1:=(show Blk w1 pv 90 _ from kv).cell 1 (u:= .slice As ns cs) rfl
 have HO1:=zak ho1
 have HD1:=zak hD1
 clear hD1 kv hB_c0 hB_c1 hB_c2 hB_c3 hB_f
 go_wp2_with fail
 refine (zvy As ns cs X _ HD1.out HS.out HND.out HH.out.row.hn HSZ.out (fun W hW=>by
  have hr:OwnSV W FL As ns cs X dx:=(HH.out.row.keep (fun g hg hlt=>HO1.out.block g hlt (fun e=>(HDJ.out g e).2 (.inl hg)))).keep (fun g hg hlt=>hW.block g hlt (by
   rintro (e | e)
   · exact (HDJ.out g e).2 (.inl hg)
   · have:=(HH.out.lw g hg).1
     omega))
  exact hr.slV) (fun v hv=>by have:=HH.out.fit v hv;omega)).mono ?_
 rintro e w2 ⟨V2,es2,rfl,hV2,hD2,ho2⟩
 have HX2:=zak (And.intro hV2 (And.intro hD2 ho2))
 clear hV2 hD2 ho2
 go_wp2_with fail
 go_ret
 refine⟨V2,es2,rfl,HX2.out.1,HX2.out.2.1.mono (fun g _ hg=>?_),HO1.out.trans HX2.out.2.2 (fun g hlt hg=>?_)⟩
 · rcases hg with (hg | hg) | hg
   · exact .inl hg
   · exact .inr hg
   · have:=HO1.out.size
     exact .inr (by omega)
 · rcases hg with hg | hg
   · exact hg
   · omega
end
end
section
open Go.RowKit
set_option maxRecDepth 20000
set_option maxHeartbeats 4000000
end
section
open Go.RowKit
set_option maxRecDepth 20000
set_option maxHeartbeats 8000000
theorem zwr (q:FP) (S:FS) (w:World) (hD:FD w q S) (hoff:S.off=false) (h3:S.wear.length < 3):Calls Tryz.prog 41 #[.pointer (some ⟨q.p,0,none⟩)] w fun e w'=>e= .returned (.tuple #[.pointer none,.int .i64 9])∧ w=w':=by
 have HON:=zak (zhj q S w hD)
 rw[hoff,Bool.not_false] at HON
 have HSE:=zak (zhi q S w hD)
 obtain⟨n,hn⟩:∃ n,n=S.wear.length:=⟨_,rfl⟩
 rw[← hn] at HSE h3
 have h3':(n:Int) < 3:=by omega
 clear hD hoff hn
 go_enter Tryz.func41,Tryz.ntmps41
 go_wp2_with fail
 refine HON.out.mono ?_
 rintro e w1 ⟨rfl,rfl⟩
 go_wp2_with fail
 refine HSE.out.mono ?_
 rintro e w1 ⟨rfl,rfl⟩
 go_wp2_with fail
 go_ret2
 exact⟨rfl,rfl⟩
end
section
open Go.RowKit
set_option maxRecDepth 20000
set_option maxHeartbeats 8000000
def OpenVR (M:Nat) (q:FP) (S:FS) (w:World) (e:Ending) (w':World):Prop:=
 ∃ pv pj A n c dj,e= .returned (.tuple #[.pointer (some ⟨pv,0,none⟩),.int .i64 0])∧ VD w' M (fun g=>w.heap.size≤g∧g < w'.heap.size∧g≠pv) (fun _=>False) pv pj q A n c dj none 0 0 [] (openJ S) S [] false false∧w.heap.size≤pv∧Below w.heap.size w w'
theorem zws (M:Nat) (q:FP) (S:FS) (pd:Addr) (w:World) (hD:FD w q S) (hoff:S.off=false) (h3:3≤S.wear.length) (hh:(openJ S).has=false) (hM:M≤w.heap.size) (hq:∀ g,q.F g→g < w.heap.size∧M≤g) :
 Calls Tryz.prog 11 #[.pointer (some ⟨q.p,0,none⟩),.pointer (some pd)] w (OpenVR M q S w):= by
 have HO:=zak (zi3 q S w hD hoff h3)
 have HD:=zak hD
 have HH:=zak hh
 have HM:=zak hM
 have HQ:=zak hq
 obtain⟨R0,hR0⟩:∃ R0,R0=OpenVR M q S w:=⟨_,rfl⟩
 rw[← hR0]
 have HR:=zak hR0
 clear hD hoff h3 hh hM hq hR0
 go_enter Tryz.func11,Tryz.ntmps11
 go_wp2_with fail
 refine HO.out.mono ?_
 rintro e w1 ⟨pj,A,n,c,ds,rfl,hJ,hb⟩
 have k0:=zbm w1 90 #[.pointer (some ⟨pj,0,none⟩),.slice none 0 0,.bool false,.bool false]
 have hba:=zbf (Below.refl w1.heap.size w1) (.cells #[.pointer (some ⟨pj,0,none⟩),.slice none 0 0,.bool false,.bool false] 90)
 have HJ0:=zak hJ
 have HB1:=zak hb
 have HJ1:=zak (hJ.below hba)
 have HJC:=zak ((show JD w1 (fun g=>w.heap.size≤g∧g < w1.heap.size) pj q.p A n c (openJ S) ds from hJ.mono (fun g hlt h=>⟨h,hlt⟩)).below hba)
 have HBA:=zak (zbd hba hb)
 have HK0:=zak k0
 have HLT:=zak (zjn _ (hJ.below hba))
 rw[HH.out] at HLT
 clear hJ hb k0 hba
 go_wp2_with fail
 refine HLT.out.mono ?_
 rintro e w2 ⟨A',c',rfl,hO,hb2⟩
 have hb3:=zbd (zbf (Below.refl w2.heap.size w2) (.cells (rcV (recJ (openJ S)).1 (recJ (openJ S)).2.1 A' (recJ (openJ S)).2.2.length c') 92)) hb2
 have HB3:=zak (zbd hb3 HBA.out)
 have HJ3:=zak (HJC.out.below hb3)
 have HK3:=zak (HK0.out.below hb3 HK0.out.lt)
 have HZ:=zak hb3.size
 unfold rcV at HB3 HJ3 HK3 HZ ⊢
 clear hO hb2 hb3 HLT HO
 go_wp2_with fail
 rw[HR.out]
 have hz1:=HB1.out.size
 have hz2:=HBA.out.size
 have hkl:=HK0.out.lt
 have hz3:=HZ.out
 refine⟨w1.heap.size,pj,A,n,c,ds,rfl,⟨HK3.out,?_,HD.out.below HB3.out,zcq.nil _ _,by have:=HM.out;omega,?_,fun g h=>h.elim,?_,by omega,fun v hv=>by cases hv⟩,hz1,HB3.out⟩
 · exact HJ3.out.mono (fun g hlt h=>⟨h.1,hlt,by omega⟩)
 · rintro g (h | h)
   · exact⟨h.2.1,by have:=HM.out;omega,h.2.2⟩
   · have:=HQ.out g h
     have h4:=HB3.out.size
     exact⟨by omega,this.2,by omega⟩
 · intro g h hq
   have:=HQ.out g hq
   have:=h.1
   omega
end
end Go.Proofs.YtehabbnohoomjaaGreatDoor
