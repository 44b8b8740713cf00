/- None -/
import Derived.Test.YtehabbnohoomjaaGreatDoorP26
import Derived.Deep.MidRow
namespace Go.Proofs.YtehabbnohoomjaaGreatDoor
set_option linter.unusedVariables false
set_option linter.unusedSimpArgs false
set_option linter.unnecessarySimpa false
section
open Go.RowKit
set_option maxRecDepth 20000
set_option maxHeartbeats 1000000
def entF (E:Ent) (d:Option Addr×Nat):List Value:=(entV E d.1 E.df.length d.2).toList
def valF (v:List UInt8) (d:Option Addr×Nat):List Value:= [.slice d.1 v.length d.2]
theorem zp4 (E:Ent) (d:Option Addr×Nat):(entF E d).length=11:=rfl
theorem zp5 (v:List UInt8) (d:Option Addr×Nat):(valF v d).length=1:=rfl
theorem zp6 (E:Ent) (d:Option Addr×Nat):∀ u ∈ entF E d,u.oneCell'=true:=by
 intro u hu
 simp only[entF,entV,List.mem_cons,List.not_mem_nil,or_false] at hu
 rcases hu with rfl | rfl | rfl | rfl | rfl | rfl | rfl | rfl | rfl | rfl | rfl<;>rfl
theorem zp8 (v:List UInt8) (d:Option Addr×Nat):∀ u ∈ valF v d,u.oneCell'=true:=by
 intro u hu
 simp only[valF,List.mem_cons,List.not_mem_nil,or_false] at hu
 subst hu
 rfl
theorem zp9:(Tryz.prog.info? 55).map (fun i=>(i.zero,i.size,i.bytes))=some (some (.agg #[.int .i64 0,.int .i64 0,.string ⟨#[]⟩,.int .i64 0,.int .i64 0,.bool false,.bool false,.int .i64 0,.int .i64 0,.int .i64 0,.slice none 0 0]),11,104):= by kernel_rfl
theorem zqa:(Tryz.prog.info? 23).map (fun i=>(i.zero,i.size,i.bytes))=some (some (.slice none 0 0),1,24):= by kernel_rfl
def fitE (E:Ent):Prop:=E.df.length≤35184372088832∧E.nm.size≤9223372036854775807
def fitB (v:List UInt8):Prop:=v.length≤35184372088832
abbrev OwnE (w:World) (F:Nat→Prop) (A:Option Addr) (n c:Nat) (L:List Ent) (ds:List (Option Addr×Nat)):Prop:=zcq entF 11 55 Ent.df w F A n c L ds
abbrev OwnS (w:World) (F:Nat→Prop) (A:Option Addr) (n c:Nat) (V:List (List UInt8)) (es:List (Option Addr×Nat)):Prop:=zcq valF 1 23 (fun v=>v) w F A n c V es
structure DB (T:TypeId) (w:World) (F:Nat→Prop) (p:Nat) (Al:Option Addr) (n cl:Nat) (Av:Option Addr) (cv:Nat) (L:List Ent) (V:List (List UInt8)) (ds es:List (Option Addr×Nat)):Prop where
 blk:Blk w p T #[.slice Al n cl,.slice Av n cv]
 inF:F p
 ents:OwnE w F Al n cl L ds
 vals:OwnS w F Av n cv V es
 fe:∀ E ∈ L,fitE E
 fv:∀ v ∈ V,fitB v
section
variable {T:TypeId} {w w':World} {F G:Nat→Prop} {p n cl cv:Nat} {Al Av:Option Addr} {L:List Ent} {V:List (List UInt8)} {ds es:List (Option Addr×Nat)}
theorem DB.keep (h:DB T w F p Al n cl Av cv L V ds es) (hk:∀ g,F g→g < w.heap.size→w'.heap[g]? =w.heap[g]?):DB T w' F p Al n cl Av cv L V ds es:=
 ⟨(hk p h.inF h.blk.lt).trans h.blk,h.inF,h.ents.keep hk,h.vals.keep hk,h.fe,h.fv⟩
theorem DB.below (h:DB T w F p Al n cl Av cv L V ds es) (hb:Below w.heap.size w w'):DB T w' F p Al n cl Av cv L V ds es:=h.keep fun g _ hlt=>hb.block g hlt
theorem DB.mono (h:DB T w F p Al n cl Av cv L V ds es) (hG:∀ g,g < w.heap.size→F g→G g):DB T w G p Al n cl Av cv L V ds es:=
 ⟨h.blk,hG p h.blk.lt h.inF,h.ents.mono hG,h.vals.mono hG,h.fe,h.fv⟩
theorem DB.lenV (h:DB T w F p Al n cl Av cv L V ds es):V.length=L.length:=by rw[← h.vals.hn,← h.ents.hn]
theorem DB.ent (h:DB T w F p Al n cl Av cv L V ds es) {k:Nat} {E:Ent} (hE:L[k]? =some E):∃ g d,Al=some ⟨g,0,none⟩∧ g < w.heap.size∧ds[k]? =some d∧zcd w 0 d.1 E.df.length d.2 E.df∧fitE E∧
 w.cell? ⟨g,k * 11,none⟩=some (.int .i64 E.ix)∧ w.cell? ⟨g,k * 11+1,none⟩=some (.int .i64 E.sub)∧ w.cell? ⟨g,k * 11+2,none⟩=some (.string E.nm)∧ w.cell? ⟨g,k * 11+3,none⟩=some (.int .i64 E.ty)∧
 w.cell? ⟨g,k * 11+4,none⟩=some (.int .i64 E.acc)∧ w.cell? ⟨g,k * 11+5,none⟩=some (.bool E.mp)∧ w.cell? ⟨g,k * 11+6,none⟩=some (.bool E.st)∧ w.cell? ⟨g,k * 11+7,none⟩=some (.int .i64 E.mx)∧
 w.cell? ⟨g,k * 11+8,none⟩=some (.int .i64 E.lo)∧ w.cell? ⟨g,k * 11+9,none⟩=some (.int .i64 E.hi)∧ w.cell? ⟨g,k * 11+10,none⟩=some (.slice d.1 E.df.length d.2):= by
 obtain⟨d,hd,hO,_⟩:= h.ents.elem hE
 obtain⟨g,hA,hlt,hc⟩:= h.ents.cells zp4 hE hd (by omega)
 exact⟨g,d,hA,hlt,hd,hO,h.fe E (List.mem_of_getElem? hE),hc 0 _ rfl,hc 1 _ rfl,hc 2 _ rfl,hc 3 _ rfl,hc 4 _ rfl,hc 5 _ rfl,hc 6 _ rfl,hc 7 _ rfl,hc 8 _ rfl,hc 9 _ rfl,hc 10 _ rfl⟩
theorem DB.val (h:DB T w F p Al n cl Av cv L V ds es) {k:Nat} {v:List UInt8} (hv:V[k]? =some v):∃ g d,Av=some ⟨g,0,none⟩∧ g < w.heap.size∧es[k]? =some d∧zcd w 0 d.1 v.length d.2 v∧fitB v∧
 w.cell? ⟨g,k,none⟩=some (.slice d.1 v.length d.2)∧ w.frozen? ⟨g,k,none⟩=false∧F g:=by
 obtain⟨d,hd,hO,_⟩:= h.vals.elem hv
 obtain⟨g,hA,hlt,hc⟩:= h.vals.cells zp5 hv hd (by omega)
 have hk:k < n:=by rw[h.vals.hn];exact (List.getElem?_eq_some_iff.1 hv).1
 obtain⟨g',u,hA',_,_,_,_,hf⟩:= h.vals.own.cell hk
 rw[hA] at hA'
 injection hA' with hA'
 injection hA' with hA'
 subst hA'
 exact⟨g,d,hA,hlt,hd,hO,h.fv v (List.mem_of_getElem? hv),by have:=hc 0 _ rfl;rw[Nat.mul_one] at this;exact this,hf,h.vals.inF g hA⟩
theorem DB.store {g:Nat} (h:DB T w F p Al n cl (some ⟨g,0,none⟩) cv L V ds es) (hT:T≠23) {k:Nat} {v:List UInt8} {A:Option Addr} {m c:Nat} (hk:k < n) (hv:zcd w 0 A m c v) (hF:FIn F A) (hfit:fitB v) :
 DB T (w.setCell ⟨g,k,none⟩ (.slice A m c)) F p Al n cl (some ⟨g,0,none⟩) cv L (V.set k v) ds (es.set k (A,c)):= by
 obtain rfl:=hv.hn
 have hv':zcd w 0 (A,c).1 v.length (A,c).2 v:=hv
 have hG:w.grownBy (w.setCell ⟨g,k,none⟩ (.slice A v.length c)) (Value.ownBlock (.slice (some ⟨g,0,none⟩) n cv)):= za9 (World.grownBy.refl _ _) (.inl rfl) k _
 have keepB:∀ {m:Nat} {dd:Option Addr×Nat} {l:List UInt8},zcd w 0 dd.1 m dd.2 l→zcd (w.setCell ⟨g,k,none⟩ (.slice A v.length c)) 0 dd.1 m dd.2 l:=fun hO=>⟨hO.hn,hO.own.grown hG (zcl hO.own h.vals.own (by decide))⟩
 refine⟨h.blk.grown hG (zcm h.blk h.vals.own hT),h.inF,⟨h.ents.hn,h.ents.hd,h.ents.own.grown hG (zcl h.ents.own h.vals.own (by decide)),h.ents.inF,fun j E d h1 h2=>⟨keepB (h.ents.data j E d h1 h2).1,(h.ents.data j E d h1 h2).2⟩⟩,?_,h.fe,?_⟩
 · exact h.vals.store zp5 (by decide) (v:=v) (d:=(A,c)) (u:= .slice A v.length c) rfl hk hv' hF
 · intro x hx
   rcases List.mem_or_eq_of_mem_set hx with hx | rfl
   · exact h.fv x hx
   · exact hfit
end
end
section
open Go.RowKit
set_option maxRecDepth 100000
set_option maxHeartbeats 2000000
theorem zqb (E:Ent) (A:Option Addr) (n c:Nat) (w:World):Calls Tryz.prog 77 #[.agg (entV E A n c)] w fun e w'=>e= .returned (.int .u32 (readE E.acc))∧ Below w.heap.size w w':=by
 obtain⟨ix,sub,nm,ty,acc,mp,st,mx,lo,hi,df⟩:= E
 unfold entV
 go_enter Tryz.func77,Tryz.ntmps77
 go_wp2_with fail
 all_goals (go_ret;exact⟨za0 (by simp_all [readE];try omega),zbf (Below.refl _ _) _⟩)
theorem zqc (E:Ent) (A:Option Addr) (n c:Nat) (w:World):Calls Tryz.prog 127 #[.agg (entV E A n c)] w fun e w'=>e= .returned (.int .u32 (writeE E.acc))∧ Below w.heap.size w w':=by
 obtain⟨ix,sub,nm,ty,acc,mp,st,mx,lo,hi,df⟩:= E
 unfold entV
 go_enter Tryz.func127,Tryz.ntmps127
 go_wp2_with fail
 all_goals (go_ret;exact⟨za0 (by simp_all [writeE];try omega),zbf (Below.refl _ _) _⟩)
theorem zqd (ix:Int):groupE ix=if ix / 4096=1 then 2 else if ix / 4096=2∨ix / 4096=3∨ix / 4096=4∨ix / 4096=5 then 4 else if ix / 4096=6∨ix / 4096=7∨ix / 4096=8∨ix / 4096=9 then 3 else 1:=by
 unfold groupE
 (repeat' split)<;> omega
theorem zqe (ix:Int) (h:ix≤0):Int.tdiv ix 4096= -((-ix) / 4096):= by
 have h1:=Int.neg_tdiv (a:= -ix) (b:=4096)
 rw[Int.neg_neg] at h1
 rw[h1,Int.tdiv_eq_ediv_of_nonneg (a:= -ix) (by omega)]
theorem zqf (ix:Int) (h:I64 ix):wrap64 (Int.tdiv ix 4096)=Int.tdiv ix 4096∧groupE ix=if Int.tdiv ix 4096=1 then 2 else if 6≤Int.tdiv ix 4096∧Int.tdiv ix 4096≤9 then 3 else if 2≤Int.tdiv ix 4096∧Int.tdiv ix 4096≤5 then 4 else 1:=by
 unfold I64 at h
 rcases Int.le_total 0 ix with h0 | h0
 · rw[Int.tdiv_eq_ediv_of_nonneg h0]
   refine⟨by unfold wrap64;omega,?_⟩
   unfold groupE;(repeat' split)<;> omega
 · rw[zqe ix h0]
   refine⟨by unfold wrap64;omega,?_⟩
   unfold groupE;(repeat' split)<;> omega
theorem zqg (E:Ent) (A:Option Addr) (n c:Nat) (w:World) (hi64:I64 E.ix):Calls Tryz.prog 104 #[.agg (entV E A n c)] w fun e w'=>e= .returned (.int .i64 (groupE E.ix))∧ Below w.heap.size w w':=by
 obtain⟨ix,sub,nm,ty,acc,mp,st,mx,lo,hi,df⟩:= E
 unfold entV
 have HG:=zak (zqf ix hi64).2
 have hw:=(zqf ix hi64).1
 clear hi64
 go_enter Tryz.func104,Tryz.ntmps104
 go_wp2_with fail
 all_goals (go_ret;refine⟨za0 ?_,zbf (Below.refl _ _) _⟩;show _=groupE ix;rw[HG.out];clear HG hw;simp_all;try omega)
theorem zqh (E F:Ent) (A B:Option Addr) (n c m d:Nat) (w:World):Calls Tryz.prog 57 #[.agg (entV E A n c),.agg (entV F B m d)] w fun e w'=>e= .returned (.bool (beforeB E.ix E.sub F.ix F.sub))∧ Below w.heap.size w w':=by
 obtain⟨ix,sub,nm,ty,acc,mp,st,mx,lo,hi,df⟩:= E
 obtain⟨ix',sub',nm',ty',acc',mp',st',mx',lo',hi',df'⟩:= F
 unfold entV
 go_enter Tryz.func57,Tryz.ntmps57
 go_wp2_with fail
 all_goals (go_ret;exact⟨za1 (by rw[Bool.eq_iff_iff];simp_all [beforeB];try omega),zbf (zbf (Below.refl _ _) _) _⟩)
theorem zqi (E F:Ent) (A B:Option Addr) (n c m d:Nat) (w:World):Calls Tryz.prog 62 #[.agg (entV E A n c),.agg (entV F B m d)] w fun e w'=>e= .returned (.bool (beforeB E.ix E.sub F.ix F.sub))∧ Below w.heap.size w w':=by
 obtain⟨ix,sub,nm,ty,acc,mp,st,mx,lo,hi,df⟩:= E
 obtain⟨ix',sub',nm',ty',acc',mp',st',mx',lo',hi',df'⟩:= F
 unfold entV
 go_enter Tryz.func62,Tryz.ntmps62
 go_wp2_with fail
 all_goals (go_ret;exact⟨za1 (by rw[Bool.eq_iff_iff];simp_all [beforeB];try omega),zbf (zbf (Below.refl _ _) _) _⟩)
end
section
section
open Go.RowKit
set_option maxRecDepth 100000
set_option maxHeartbeats 2000000
theorem zqj (A:Option Addr) (n c:Nat) (l:List UInt8) (w:World) (hn:n=l.length) (hl:n≤35184372088832) (hs:Sl w A (l.map bv)) :
 Calls Tryz.prog 47 #[.slice A n c] w fun e w'=> ∃ A' c',e= .returned (.slice A' n c')∧ zcd w' w.heap.size A' n c' l∧Below w.heap.size w w':=by
 have H1:=zak hn
 clear hn
 go_enter Tryz.func47,Tryz.ntmps47
 go_wp2_with (at_builtin;refine zce _ rfl _ (.tmp 3) rfl w.heap.size _ _ _ _ rfl (zcd.nil _ _) _ _ _ l rfl H1.out hs (by omega) (Nat.le_refl _) n (by omega) ?_;intro A3 c3 w3 hown3 _ _ hb3)
 go_ret
 exact⟨_,_,rfl,by simpa using hown3,hb3⟩
def PtrV (p:Nat):Value:= .pointer (some ⟨p,0,none⟩)
section
variable {F:Nat→Prop} {p n cl cv:Nat} {Av:Option Addr} {L:List Ent} {V:List (List UInt8)} {ds es:List (Option Addr×Nat)} {gl:Nat}
theorem zqk (w:World) (hB:Blk w p 102 #[.slice (some ⟨gl,0,none⟩) n cl,.slice Av n cv]) :
 Calls Tryz.prog 88 #[.pointer (some ⟨p,0,none⟩)] w fun e w'=>e= .returned (.bool true)∧ w=w':=by
 obtain⟨hB_c0,hB_c1⟩:= zbg hB
 have hB_f:=hB.frozen
 go_enter Tryz.func88,Tryz.ntmps88
 go_wp2_with fail
 go_ret
 exact⟨rfl,rfl⟩
theorem zql (w:World) (hB:Blk w p 102 #[.slice (some ⟨gl,0,none⟩) n cl,.slice Av n cv]) :
 Calls Tryz.prog 46 #[.pointer (some ⟨p,0,none⟩)] w fun e w'=>e= .returned (.int .i64 n)∧ w=w':=by
 have HT:=zak (zqk w hB)
 obtain⟨hB_c0,hB_c1⟩:= zbg hB
 have hB_f:=hB.frozen
 go_enter Tryz.func46,Tryz.ntmps46
 go_wp2_with fail
 refine HT.out.mono ?_
 rintro e w1 ⟨rfl,rfl⟩
 go_wp2_with fail
 go_ret
 exact⟨rfl,rfl⟩
theorem zqm (k:Nat) (ix sub:Int) (w:World) (hD:DB 102 w F p (some ⟨gl,0,none⟩) n cl Av cv L V ds es) :
 Calls Tryz.prog 118 #[.pointer (some ⟨p,0,none⟩),.int .i64 k,.int .i64 ix,.int .i64 sub] w fun e w'=>e= .returned (.bool (hereB L[k]? ix sub))∧ w=w':=by
 have HL:=zak (zql w hD.blk)
 have hB:=hD.blk
 have hn:=hD.ents.hn
 by_cases hk:k < n
 · obtain⟨E,hE⟩:∃ E,L[k]? =some E:=⟨L[k]'(by omega),List.getElem?_eq_getElem _⟩
   obtain⟨g,d,hA,hlt,hd,hO,hfit,c0,c1,c2,c3,c4,c5,c6,c7,c8,c9,c10⟩:= hD.ent hE
   injection hA with hA
   injection hA with hA
   subst hA
   rw[hE]
   clear c2 c3 c4 c5 c6 c7 c8 c9 c10
   clear hn hE hd hO hfit hD hlt
   obtain⟨hB_c0,hB_c1⟩:= zbg hB
   have hB_f:=hB.frozen
   go_enter Tryz.func118,Tryz.ntmps118
   go_wp2_with fail
   refine HL.out.mono ?_
   rintro e w1 ⟨rfl,rfl⟩
   go_wp2_with fail
   all_goals (go_ret;refine⟨za1 ?_,rfl⟩;go_light;simp_all [hereB];try (rw[Bool.eq_iff_iff];simp))
 · have hE:L[k]? =none:=List.getElem?_eq_none (by omega)
   rw[hE]
   clear hn hE hD
   obtain⟨hB_c0,hB_c1⟩:= zbg hB
   have hB_f:=hB.frozen
   go_enter Tryz.func118,Tryz.ntmps118
   go_wp2_with fail
   refine HL.out.mono ?_
   rintro e w1 ⟨rfl,rfl⟩
   go_wp2_with fail
   go_ret
   exact⟨rfl,rfl⟩
theorem zqn (k:Int) (ix sub:Int) (w:World) (hD:DB 102 w F p (some ⟨gl,0,none⟩) n cl Av cv L V ds es) :
 Calls Tryz.prog 119 #[.pointer (some ⟨p,0,none⟩),.int .i64 k,.int .i64 ix,.int .i64 sub] w fun e w'=>e= .returned (.bool (nearZ L k ix))∧ w=w':=by
 have HL:=zak (zql w hD.blk)
 have hB:=hD.blk
 have hn:=hD.ents.hn
 by_cases hk0:0≤k
 · obtain⟨k,rfl⟩:= Int.eq_ofNat_of_zero_le hk0
   have hR:nearZ L (k:Nat) ix=nearB L[k]? ix:=by simp[nearZ]
   rw[hR]
   clear hk0 hR
   by_cases hk:k < n
   · obtain⟨E,hE⟩:∃ E,L[k]? =some E:=⟨L[k]'(by omega),List.getElem?_eq_getElem _⟩
     obtain⟨g,d,hA,hlt,hd,hO,hfit,c0,c1,c2,c3,c4,c5,c6,c7,c8,c9,c10⟩:= hD.ent hE
     injection hA with hA
     injection hA with hA
     subst hA
     rw[hE]
     clear c1 c2 c3 c4 c5 c6 c7 c8 c9 c10
     clear hn hE hd hO hfit hD hlt
     obtain⟨hB_c0,hB_c1⟩:= zbg hB
     have hB_f:=hB.frozen
     go_enter Tryz.func119,Tryz.ntmps119
     go_wp2_with fail
     refine HL.out.mono ?_
     rintro e w1 ⟨rfl,rfl⟩
     go_wp2_with fail
     go_ret
     refine⟨za1 ?_,rfl⟩
     go_light
     simp_all [nearB]
     try rfl
   · have hE:L[k]? =none:=List.getElem?_eq_none (by omega)
     rw[hE]
     clear hn hE hD
     obtain⟨hB_c0,hB_c1⟩:= zbg hB
     have hB_f:=hB.frozen
     go_enter Tryz.func119,Tryz.ntmps119
     go_wp2_with fail
     refine HL.out.mono ?_
     rintro e w1 ⟨rfl,rfl⟩
     go_wp2_with fail
     go_ret
     exact⟨rfl,rfl⟩
 · have hR:nearZ L k ix=false:=by simp[nearZ];intro h;omega
   rw[hR]
   have hk':k < 0:=by omega
   clear hn hD hk0 hR
   obtain⟨hB_c0,hB_c1⟩:= zbg hB
   have hB_f:=hB.frozen
   go_enter Tryz.func119,Tryz.ntmps119
   go_wp2_with fail
   go_ret
   exact⟨rfl,rfl⟩
end
end
section
open Go.RowKit
set_option maxRecDepth 100000
set_option maxHeartbeats 2000000
def plE (ix sub:Int):Ent:=⟨ix,sub,⟨#[]⟩,0,0,false,false,0,0,0,[]⟩
section
variable {F:Nat→Prop} {p n cl cv:Nat} {Av:Option Addr} {L:List Ent} {V:List (List UInt8)} {ds es:List (Option Addr×Nat)} {gl:Nat}
theorem zqo (ix sub:Int) (w:World) (hD:DB 102 w F p (some ⟨gl,0,none⟩) n cl Av cv L V ds es) (hs:SortedE L) (hn:n≤1000) :
 Calls Tryz.prog 117 #[.pointer (some ⟨p,0,none⟩),.int .i64 ix,.int .i64 sub] w fun e w'=>e= .returned (.int .i64 (seekL L ix sub))∧ Below w.heap.size w w':=by
 have HS:=zak hs
 have HN:=zak hD.ents.hn
 obtain⟨s,hse⟩:∃ s,s=seekL L ix sub:=⟨_,rfl⟩
 have hsl:s≤n:=by rw[hse,HN.out];exact zo2 L ix sub
 rw[← hse]
 have HSE:=zak hse
 clear hse hs
 have hB1:=hD.blk.alloc (.cells (entV (plE ix sub) none 0 0) 55)
 have hbw:=zbf (Below.refl w.heap.size w) (.cells (entV (plE ix sub) none 0 0) 55)
 have q:=zbm w 55 (entV (plE ix sub) none 0 0)
 go_enter Tryz.func117,Tryz.ntmps117
 go_wp2_with fail
 refine (zql _ hB1).mono ?_
 rintro e w1 ⟨rfl,rfl⟩
 go_wp2_with fail
 go_loopw [8,9] (fun lo hi wr=> ∃ a b,lo= .int .i64 (a:Nat)∧ hi= .int .i64 (b:Nat)∧ a≤s∧s≤b∧b≤n∧Below (w.heap.size+1) (w.alloc (.cells (entV (plE ix sub) none 0 0) 55)) wr) (fun lo hi _=>(intOf hi).toNat - (intOf lo).toNat)
 case atStart=>exact⟨0,n,rfl,rfl,by omega,hsl,Nat.le_refl _,Below.refl _ _⟩
 case round=>
  obtain⟨a,b,rfl,rfl,ha,hb,hbn,hbr⟩:= hrel
  by_cases hlt:a < b
  · obtain⟨m,hm⟩:∃ m,m=(a+b) / 2:=⟨_,rfl⟩
    have h2:((a:Int)+(b:Int)) / 2=(m:Int):= by omega
    have hm1:m < n:=by omega
    have hm2:a≤m∧m < b:=by omega
    obtain⟨hm3,hm4⟩:= hm2
    have HM:=zak hm
    clear hm
    have hbw1:=hbw.trans (hbr.mono (Nat.le_succ _))
    have hDr:=hD.below hbw1
    obtain⟨E,hE⟩:∃ E,L[m]? =some E:=⟨L[m]'(by rw[← HN.out];exact hm1),List.getElem?_eq_getElem _⟩
    have HBE:=zak (zo5 L ix sub HS.out m E hE)
    obtain⟨g,d,hA,zg,_,_,_,c0,c1,c2,c3,c4,c5,c6,c7,c8,c9,c10⟩:= hDr.ent hE
    injection hA with hA
    injection hA with hA
    subst hA
    have hBr:=hDr.blk
    have zp:=hBr.lt
    have q1:=q.below hbr (Nat.lt_succ_self _)
    have zq:=q1.lt
    have hidx:=zbr hm1
    obtain⟨i1,i2,i3⟩:= hidx
    unfold entV plE at q1
    simp only[] at q1
    obtain⟨q1_c0,q1_c1,q1_c2,q1_c3,q1_c4,q1_c5,q1_c6,q1_c7,q1_c8,q1_c9,q1_c10⟩:= zbl q1
    have q1_f:=q1.frozen
    obtain⟨hBr_c0,hBr_c1⟩:= zbg hBr
    have hBr_f:=hBr.frozen
    clear hE hDr
    go_wp2_with fail
    refine wp_region_held_drew (S:=(fun w'=>(∀ qA:Addr,qA.block < (wr).heap.size→w'.cell? qA=(wr).cell? qA)∧ Below (wr).heap.size (wr) w')) (by kernel_rfl) ?hS1 (fun hHeld=>?rest1)
    case hS1=>((try dsimp only);(((try go_split_ands);refine zbc ?_;all_goals exact bl)))
    case' rest1=>skip
    iterate 8 (refine tkN ?_;try simp only[PqL,Act.put])
    refine wpAnyH_ready (rs:= [8]) (by kernel_rfl) (by simp) ?_
    refine AllReadyH.cons (o:=_) rfl (fun K hK=>?_) .nil
    go_simp
    refine (zqh E (plE ix sub) d.1 none E.df.length d.2 0 0 _).mono ?_
    rintro e w2 ⟨rfl,hb2⟩
    dsimp only
    refine hK.out _ _ ?hS12 (fun hHeld=>?rest12)
    case hS12=>((try dsimp only);(((try go_split_ands);refine zbc ?_;all_goals exact bl)))
    case' rest12=>(clear hK K;try simp only[PqL,Act.put])
    refine wpAnyH_done (by kernel_rfl) ?_ _
    have hEnd:=hHeld.2
    repeat (clear hHeld)
    have hb3:=hbr.trans (hEnd.mono (by have:=hbr.size;simpa using this))
    cases hbe:befE E ix sub
    · have hsm:s≤m:=by
       have:=HBE.out
       rw[hbe,← HSE.out] at this
       simpa using this.symm
      have HB:=zak hbe
      have hbe':beforeB E.ix E.sub (plE ix sub).ix (plE ix sub).sub=false:=hbe
      rw[hbe']
      clear hbe hbe' HBE
      go_wp2_with fail
      go_roundw
      case rel=>exact⟨a,m,rfl,rfl,ha,hsm,by omega,hb3⟩
      case measure=>simp[intOf];omega
    · have hsm:m < s:=by
       have:=HBE.out
       rw[hbe,← HSE.out] at this
       simpa using this.symm
      have HB:=zak hbe
      have hbe':beforeB E.ix E.sub (plE ix sub).ix (plE ix sub).sub=true:=hbe
      rw[hbe']
      clear hbe hbe' HBE
      go_wp2_with fail
      go_roundw
      case rel=>exact⟨m+1,b,by go_num,rfl,by omega,hb,hbn,hb3⟩
      case measure=>simp[intOf];omega
  · go_wp2_with fail
    go_ret
    refine⟨za0 (by omega),hbw.trans (hbr.mono (by omega))⟩
end
end
section
open Go.RowKit
set_option maxRecDepth 100000
set_option maxHeartbeats 2000000
section
variable {F:Nat→Prop} {p n cl cv:Nat} {Av:Option Addr} {L:List Ent} {V:List (List UInt8)} {ds es:List (Option Addr×Nat)} {gl:Nat}
theorem zqp (ix sub:Int) (w:World) (hD:DB 102 w F p (some ⟨gl,0,none⟩) n cl Av cv L V ds es) (hs:SortedE L) (hn:n≤1000) :
 Calls Tryz.prog 84 #[.pointer (some ⟨p,0,none⟩),.int .i64 ix,.int .i64 sub] w fun e w'=>e= .returned (.tuple #[.int .i64 (locK L ix sub),.bool (hasL L ix sub)])∧ Below w.heap.size w w':=by
 have HC:=zak (zpe L ix sub hs)
 have HS:=zak hs
 have HD:=zak hD
 clear hs hD
 go_enter Tryz.func84,Tryz.ntmps84
 go_wp2_with fail
 refine (zqo ix sub _ HD.out HS.out hn).mono ?_
 rintro e w1 ⟨rfl,hb1⟩
 go_wp2_with fail
 refine (zqm _ ix sub _ (HD.out.below hb1)).mono ?_
 rintro e w2 ⟨rfl,rfl⟩
 cases h:hereB L[seekL L ix sub]? ix sub
 · have HF:Hid (locK L ix sub=0∧hasL L ix sub=false):= zak (by
    have:=HC.out
    rw[h] at this
    unfold locK hasL
    rcases this with ⟨h1,_⟩ | ⟨_,_,h1⟩ | ⟨_,_,_,h1⟩ | ⟨_,_,_,h1⟩
    · cases h1
    all_goals (rw[h1];exact⟨rfl,rfl⟩))
   clear h
   go_wp2_with fail
   go_ret2
   refine⟨?_,hb1⟩
   rw[HF.out.1,HF.out.2]
   rfl
 · have HF:Hid (locK L ix sub=seekL L ix sub∧hasL L ix sub=true):= zak (by
    have:=HC.out
    rw[h] at this
    unfold locK hasL
    rcases this with ⟨_,h1,_⟩ | ⟨h1,_⟩ | ⟨h1,_⟩ | ⟨h1,_⟩
    · rw[h1];exact⟨rfl,by simp⟩
    all_goals cases h1)
   clear h
   go_wp2_with fail
   go_ret2
   refine⟨?_,hb1⟩
   rw[HF.out.1,HF.out.2]
   rfl
theorem zqq (ix sub:Int) (w:World) (hD:DB 102 w F p (some ⟨gl,0,none⟩) n cl Av cv L V ds es) (hs:SortedE L) (hn:n≤1000) :
 Calls Tryz.prog 76 #[.pointer (some ⟨p,0,none⟩),.int .i64 ix,.int .i64 sub] w fun e w'=>e= .returned (.tuple #[.int .i64 (locK L ix sub),.int .u32 (codeL L ix sub)])∧ Below w.heap.size w w':=by
 have HC:=zpe L ix sub hs
 have HS:=zak hs
 have HD:=zak hD
 have HL:seekL L ix sub≤n:=by rw[hD.ents.hn];exact zo2 L ix sub
 clear hs hD
 go_enter Tryz.func76,Tryz.ntmps76
 go_wp2_with fail
 refine (zqk _ HD.out.blk).mono ?_
 rintro e w1 ⟨rfl,rfl⟩
 go_wp2_with fail
 refine (zqo ix sub _ HD.out HS.out hn).mono ?_
 rintro e w1 ⟨rfl,hb1⟩
 have HD1:=zak (HD.out.below hb1)
 rcases HC with ⟨h1,h2,h3⟩ | ⟨h1,h2,h3⟩ | ⟨h1,h2,h3,h4⟩ | ⟨h1,h2,h3,h4⟩
 · have HF:Hid (locK L ix sub=seekL L ix sub∧codeL L ix sub=0):= zak (by unfold locK codeL;rw[h2];exact⟨rfl,if_pos (by omega)⟩)
   have H1:=zak h1
   clear h1 h2 h3
   go_wp2_with fail
   refine (zqm _ ix sub _ HD1.out).mono ?_
   rintro e w2 ⟨rfl,rfl⟩
   rw[H1.out]
   go_wp2_with fail
   go_ret2
   refine⟨?_,hb1⟩
   rw[HF.out.1,HF.out.2]
   rfl
 · have HF:Hid (locK L ix sub=0∧codeL L ix sub=101253137):= zak (by unfold locK codeL;rw[h3];exact⟨rfl,rfl⟩)
   have H1:=zak h1
   have H2:=zak h2
   clear h1 h2 h3
   go_wp2_with fail
   refine (zqm _ ix sub _ HD1.out).mono ?_
   rintro e w2 ⟨rfl,rfl⟩
   rw[H1.out]
   go_wp2_with fail
   refine (zqn _ ix sub _ HD1.out).mono ?_
   rintro e w2 ⟨rfl,rfl⟩
   rw[H2.out]
   go_wp2_with fail
   go_ret2
   refine⟨?_,hb1⟩
   rw[HF.out.1,HF.out.2]
   rfl
 · have HF:Hid (locK L ix sub=0∧codeL L ix sub=101253137):= zak (by unfold locK codeL;rw[h4];exact⟨rfl,rfl⟩)
   have H1:=zak h1
   have H2:=zak h2
   have H3:=zak h3
   clear h1 h2 h3 h4
   go_wp2_with fail
   refine (zqm _ ix sub _ HD1.out).mono ?_
   rintro e w2 ⟨rfl,rfl⟩
   rw[H1.out]
   go_wp2_with fail
   refine (zqn _ ix sub _ HD1.out).mono ?_
   rintro e w2 ⟨rfl,rfl⟩
   rw[H2.out]
   go_wp2_with fail
   refine (zqn _ ix sub _ HD1.out).mono ?_
   rintro e w2 ⟨rfl,rfl⟩
   rw[H3.out]
   go_wp2_with fail
   go_ret2
   refine⟨?_,hb1⟩
   rw[HF.out.1,HF.out.2]
   rfl
 · have HF:Hid (locK L ix sub=0∧codeL L ix sub=100794368):= zak (by unfold locK codeL;rw[h4];exact⟨rfl,rfl⟩)
   have H1:=zak h1
   have H2:=zak h2
   have H3:=zak h3
   clear h1 h2 h3 h4
   go_wp2_with fail
   refine (zqm _ ix sub _ HD1.out).mono ?_
   rintro e w2 ⟨rfl,rfl⟩
   rw[H1.out]
   go_wp2_with fail
   refine (zqn _ ix sub _ HD1.out).mono ?_
   rintro e w2 ⟨rfl,rfl⟩
   rw[H2.out]
   go_wp2_with fail
   refine (zqn _ ix sub _ HD1.out).mono ?_
   rintro e w2 ⟨rfl,rfl⟩
   rw[H3.out]
   go_wp2_with fail
   go_ret2
   refine⟨?_,hb1⟩
   rw[HF.out.1,HF.out.2]
   rfl
end
end
end
section
open Go.RowKit
set_option maxRecDepth 100000
set_option maxHeartbeats 1000000
theorem Blk.setAll {w:World} {g:Nat} {t:TypeId} (vs:List Value):∀ (pre:List Value) (cs:Array Value),cs.size=pre.length+vs.length→(∀ i,i < pre.length→cs[i]? =pre[i]?)→ Blk w g t cs→Blk (w.setCells g pre.length vs) g t (pre ++ vs).toArray:=by
 induction vs generalizing w with
 | nil=>
   intro pre cs hs hp hB
   have:cs=(pre ++ []).toArray:=by
    apply Array.ext_getElem?
    intro i
    by_cases hi:i < pre.length
    · rw[hp i hi];simp
    · rw[Array.getElem?_eq_none (by simp at hs;omega)];simp;omega
   rw[← this]
   exact hB
 | cons v vs ih=>
   intro pre cs hs hp hB
   have h:=ih (w:=w.setCell ⟨g,pre.length,none⟩ v) (pre ++ [v]) (cs.setIfInBounds pre.length v) (by simp at hs ⊢;omega) (by
    intro i hi
    rw[Array.getElem?_setIfInBounds]
    simp at hi
    by_cases he:pre.length=i
    · subst he
      rw[if_pos rfl,if_pos (by simp at hs;omega)]
      simp
    · rw[if_neg he,hp i (by omega),List.getElem?_append_left (by omega)]) (hB.set_ _ _)
   simp only[List.length_append,List.length_cons,List.length_nil,Nat.zero_add,List.append_assoc,List.singleton_append] at h
   exact h
theorem Blk.all {w:World} {g:Nat} {t:TypeId} {cs:Array Value} (hB:Blk w g t cs) (vs:List Value) (hs:vs.length=cs.size):Blk (w.setCells g 0 vs) g t vs.toArray:=by
 have:=Blk.setAll vs [] cs (by simpa using hs.symm) (by intro i hi;simp at hi) hB
 simpa using this
end
end Go.Proofs.YtehabbnohoomjaaGreatDoor
