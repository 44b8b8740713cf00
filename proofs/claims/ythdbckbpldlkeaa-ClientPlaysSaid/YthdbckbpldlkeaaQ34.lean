/- None -/
import Derived.Test.YthdbckbpldlkeaaQ33
namespace Go.Proofs.Ythdbckbpldlkeaa
set_option linter.unusedVariables false
set_option linter.unusedSimpArgs false
set_option linter.unnecessarySimpa false
section
section
open Go.RowKit
structure Op24 where
 kind:Int
 ix:Int
 sub:Int
 mode:Int
 b:List UInt8
 f:Frm
 own:Bool
def SlK (w:World) (A:Option Addr) (L:List Op24):Prop:= ∀ j o,L[j]? =some o→ ∃ b off Ab cb Af cf,A=some ⟨b,off,none⟩∧ (w.cell? ⟨b,off+j * 9,none⟩=some (.int .i64 o.kind)∧ w.cell? ⟨b,off+j * 9+1,none⟩=some (.int .i64 o.ix)∧ w.cell? ⟨b,off+j * 9+2,none⟩=some (.int .i64 o.sub)∧ w.cell? ⟨b,off+j * 9+3,none⟩=some (.int .i64 o.mode)∧ w.cell? ⟨b,off+j * 9+4,none⟩=some (.slice Ab o.b.length cb)∧ w.cell? ⟨b,off+j * 9+5,none⟩=some (.int .i64 o.f.id)∧ w.cell? ⟨b,off+j * 9+6,none⟩=some (.bool o.f.re)∧ w.cell? ⟨b,off+j * 9+7,none⟩=some (.slice Af o.f.data.length cf)∧ w.cell? ⟨b,off+j * 9+8,none⟩=some (.bool o.own))∧ o.b.length≤cb∧Sl w Ab (o.b.map bv)∧ o.f.data.length≤cf∧Sl w Af (o.f.data.map bv)
end
section
open Go.RowKit Go.ChangeShapes Go.WideShapes Go.Deep Go.Joins
set_option maxRecDepth 20000
theorem zlx:Try.prog.cellsOf 36=9:=by kernel_rfl
theorem zly:Try.prog.cellsOf 34=3:=by kernel_rfl
section
variable {H:Type} {enc:TypeId×Value→H} {w:World} {base:Nat} {spare:Nat→Bool} {held:Bool}
theorem zlz {fuel:Nat} {v:Value} {x:DataW H×List MemPlace} (h:DataW.trod enc Try.prog w base spare held fuel 22 [v]=some x) :
 ∃ (A:Option Addr) (n c:Nat) (L:List Op24),v= .slice A n c∧n=L.length∧n≤c∧SlK w A L:=by
 rcases open_slice Try.underlying22 h with ⟨hcs,_⟩ | ⟨a,len,cap,m,n,D,Pl,hcs,_,hl,hm,hmm,_,hi⟩
 · simp at hcs
   exact⟨none,0,0,[],hcs,rfl,Nat.le_refl _,by intro j v hv;simp at hv⟩
 · simp at hcs
   have hlm:len≤m:=by rw[hmm];split<;>omega
   obtain⟨L,hL,hQ⟩:= zlv len (fun i (o:Op24)=> ∃ Ab cb Af cf,w.cell? (a.add (i * 9))=some (.int .i64 o.kind)∧ w.cell? ((a.add (i * 9)).add 1)=some (.int .i64 o.ix)∧ w.cell? ((a.add (i * 9)).add 2)=some (.int .i64 o.sub)∧ w.cell? ((a.add (i * 9)).add 3)=some (.int .i64 o.mode)∧ w.cell? ((a.add (i * 9)).add 4)=some (.slice Ab o.b.length cb)∧ w.cell? ((a.add (i * 9)).add 5)=some (.int .i64 o.f.id)∧ w.cell? ((a.add (i * 9)).add 6)=some (.bool o.f.re)∧ w.cell? ((a.add (i * 9)).add 7)=some (.slice Af o.f.data.length cf)∧ w.cell? ((a.add (i * 9)).add 8)=some (.bool o.own)∧ o.b.length≤cb∧Sl w Ab (o.b.map bv)∧ o.f.data.length≤cf∧Sl w Af (o.f.data.map bv)) (by
    intro i hilen
    obtain⟨cs',hc,ht⟩:= hi i (by omega)
    rw[zlx] at hc
    obtain⟨_,hcl,hat⟩:= World.cells?_some hc
    obtain⟨ys,k,_,_,_,_,hf⟩:= DataW.trod_struct Try.underlying36 ht
    match cs',hcl with
    | [v0,v1,v2,v3,v4,v5,v6,v7,v8],_=>
      have f0:DataW.trod enc Try.prog w base spare held k 3 ((([v0,v1,v2,v3,v4,v5,v6,v7,v8]:List Value).drop 0).take (Try.prog.cellsOf 3))=ys[0]? :=hf 0 _ rfl
      have f1:DataW.trod enc Try.prog w base spare held k 3 ((([v0,v1,v2,v3,v4,v5,v6,v7,v8]:List Value).drop 1).take (Try.prog.cellsOf 3))=ys[1]? :=hf 1 _ rfl
      have f2:DataW.trod enc Try.prog w base spare held k 3 ((([v0,v1,v2,v3,v4,v5,v6,v7,v8]:List Value).drop 2).take (Try.prog.cellsOf 3))=ys[2]? :=hf 2 _ rfl
      have f3:DataW.trod enc Try.prog w base spare held k 3 ((([v0,v1,v2,v3,v4,v5,v6,v7,v8]:List Value).drop 3).take (Try.prog.cellsOf 3))=ys[3]? :=hf 3 _ rfl
      have f4:DataW.trod enc Try.prog w base spare held k 32 ((([v0,v1,v2,v3,v4,v5,v6,v7,v8]:List Value).drop 4).take (Try.prog.cellsOf 32))=ys[4]? :=hf 4 _ rfl
      have f5:DataW.trod enc Try.prog w base spare held k 34 ((([v0,v1,v2,v3,v4,v5,v6,v7,v8]:List Value).drop 5).take (Try.prog.cellsOf 34))=ys[5]? :=hf 5 _ rfl
      have f6:DataW.trod enc Try.prog w base spare held k 4 ((([v0,v1,v2,v3,v4,v5,v6,v7,v8]:List Value).drop 8).take (Try.prog.cellsOf 4))=ys[6]? :=hf 6 _ rfl
      have ci:Try.prog.cellsOf 3=1:=by kernel_rfl
      have cb:Try.prog.cellsOf 4=1:=by kernel_rfl
      have cu:Try.prog.cellsOf 32=1:=by kernel_rfl
      rw[ci] at f0 f1 f2 f3
      rw[cu] at f4
      rw[zly] at f5
      rw[cb] at f6
      simp only[List.drop_zero,List.take_succ_cons,List.take_zero,List.drop_succ_cons] at f0 f1 f2 f3 f4 f5 f6
      have hy:ys.length=7:=by assumption
      rw[List.getElem?_eq_getElem (show 0 < ys.length by omega)] at f0
      rw[List.getElem?_eq_getElem (show 1 < ys.length by omega)] at f1
      rw[List.getElem?_eq_getElem (show 2 < ys.length by omega)] at f2
      rw[List.getElem?_eq_getElem (show 3 < ys.length by omega)] at f3
      rw[List.getElem?_eq_getElem (show 4 < ys.length by omega)] at f4
      rw[List.getElem?_eq_getElem (show 5 < ys.length by omega)] at f5
      rw[List.getElem?_eq_getElem (show 6 < ys.length by omega)] at f6
      obtain⟨x0,h0,_,_⟩:= DataW.trod_int Try.underlying3 f0
      obtain⟨x1,h1,_,_⟩:= DataW.trod_int Try.underlying3 f1
      obtain⟨x2,h2,_,_⟩:= DataW.trod_int Try.underlying3 f2
      obtain⟨x3,h3,_,_⟩:= DataW.trod_int Try.underlying3 f3
      obtain⟨Ab,cb',lb,h4,hb1,hb2⟩:= zlw f4
      obtain⟨zs,k2,_,_,_,hlz,hg⟩:= DataW.trod_struct Try.underlying34 f5
      obtain⟨x6,h6,_⟩:= DataW.trod_bool Try.underlying4 f6
      have g0:DataW.trod enc Try.prog w base spare held k2 3 ((([v5,v6,v7]:List Value).drop 0).take (Try.prog.cellsOf 3))=zs[0]? :=hg 0 _ rfl
      have g1:DataW.trod enc Try.prog w base spare held k2 4 ((([v5,v6,v7]:List Value).drop 1).take (Try.prog.cellsOf 4))=zs[1]? :=hg 1 _ rfl
      have g2:DataW.trod enc Try.prog w base spare held k2 32 ((([v5,v6,v7]:List Value).drop 2).take (Try.prog.cellsOf 32))=zs[2]? :=hg 2 _ rfl
      rw[ci] at g0
      rw[cb] at g1
      rw[cu] at g2
      simp only[List.drop_zero,List.take_succ_cons,List.take_zero,List.drop_succ_cons] at g0 g1 g2
      have hyz:zs.length=3:=by assumption
      rw[List.getElem?_eq_getElem (show 0 < zs.length by omega)] at g0
      rw[List.getElem?_eq_getElem (show 1 < zs.length by omega)] at g1
      rw[List.getElem?_eq_getElem (show 2 < zs.length by omega)] at g2
      obtain⟨z0,e0,_,_⟩:= DataW.trod_int Try.underlying3 g0
      obtain⟨z1,e1,_⟩:= DataW.trod_bool Try.underlying4 g1
      obtain⟨Af,cf',lf,e2,hf1,hf2⟩:= zlw g2
      simp only[List.cons.injEq,and_true] at h0 h1 h2 h3 h6 e0 e1
      subst h0 h1 h2 h3 h4 h6 e0 e1 e2
      have a0:=hat 0 (by omega)
      have a1:=hat 1 (by omega)
      have a2:=hat 2 (by omega)
      have a3:=hat 3 (by omega)
      have a4:=hat 4 (by omega)
      have a5:=hat 5 (by omega)
      have a6:=hat 6 (by omega)
      have a7:=hat 7 (by omega)
      have a8:=hat 8 (by omega)
      refine⟨⟨x0,x1,x2,x3,lb,⟨z0,z1,lf⟩,x6⟩,Ab,cb',Af,cf',?_,a1,a2,a3,a4,a5,a6,a7,a8,hb1,hb2,hf1,hf2⟩
      simpa [Addr.add] using a0)
   refine⟨some a,len,cap,L,hcs,hL.symm,hl,?_⟩
   intro j E hE
   obtain⟨Ab,cb,Af,cf,q0,q1,q2,q3,q4,q5,q6,q7,q8,hx⟩:= hQ j E hE
   rw[zam] at q1 q2 q3 q4 q5 q6 q7 q8
   obtain⟨b,off,spot⟩:= a
   obtain⟨v0,hv0⟩:∃ v0,L[0]? =some v0:=⟨L[0]'(by have:=(List.getElem?_eq_some_iff.1 hE).1;omega),List.getElem?_eq_getElem _⟩
   obtain⟨_,_,_,_,g0,_⟩:= hQ 0 v0 hv0
   have:spot=none:=by
    have:=World.cell?_spot g0
    simpa [Addr.add] using this
   subst this
   exact⟨b,off,Ab,cb,Af,cf,rfl,⟨by simpa [Addr.add_lit] using q0,by simpa [Addr.add_lit,Nat.add_assoc] using q1,by simpa [Addr.add_lit,Nat.add_assoc] using q2,by simpa [Addr.add_lit,Nat.add_assoc] using q3,by simpa [Addr.add_lit,Nat.add_assoc] using q4,by simpa [Addr.add_lit,Nat.add_assoc] using q5,by simpa [Addr.add_lit,Nat.add_assoc] using q6,by simpa [Addr.add_lit,Nat.add_assoc] using q7,by simpa [Addr.add_lit,Nat.add_assoc] using q8⟩,hx⟩
end
end
end
section
open Go.RowKit
set_option maxRecDepth 100000
set_option maxHeartbeats 4000000
def zl0 (w:World) (A:Option Addr) (L:List Frm):Prop:= ∀ j f,L[j]? =some f→ ∃ b off Aj cj,A=some ⟨b,off,none⟩∧ (w.cell? ⟨b,off+j * 3+0,none⟩=some (.int .i64 f.id)∧ w.cell? ⟨b,off+j * 3+1,none⟩=some (.bool f.re)∧ w.cell? ⟨b,off+j * 3+2,none⟩=some (.slice Aj f.data.length cj))∧ Sl w Aj (f.data.map bv)
theorem zl0.below {w w':World} {A:Option Addr} {L:List Frm} (h:zl0 w A L) (hb:Below w.heap.size w w'):zl0 w' A L:=by
 intro j f hf
 obtain⟨b,off,Aj,cj,hA,⟨c0,c1,c2⟩,hs⟩:= h j f hf
 have k:∀ {p v},w.cell? p=some v→w'.cell? p=some v:=fun hc=>(hb.cell (zal hc)).trans hc
 exact⟨b,off,Aj,cj,hA,⟨k c0,k c1,k c2⟩,hs.below hb⟩
theorem zl1 {w:World} {F:Nat→Prop} {A:Option Addr} {n c:Nat} {L:List Frm} {ds:List (Option Addr×Nat)} (h:zfe w F A n c L ds):zl0 w A L:=by
 intro j f hf
 obtain⟨d,hd,hO,_⟩:= h.1.elem hf
 obtain⟨g,hA,_,hc⟩:= h.1.cells ze9 hf hd (by omega)
 refine⟨g,0,d.1,d.2,hA,?_,hO.sl⟩
 simp only[Nat.zero_add]
 exact⟨hc 0 _ rfl,hc 1 _ rfl,hc 2 _ rfl⟩
theorem zl2 (f:Frm) (A A2:Option Addr) (n c n2 c2:Nat) (w:World) (hn:n=f.data.length) (hn2:n2=f.data.length) (h1:Sl w A (f.data.map bv)) (h2:Sl w A2 (f.data.map bv)) :
 Calls Try.prog 45 #[.agg #[.int .i64 f.id,.bool f.re,.slice A n c],.agg #[.int .i64 f.id,.bool f.re,.slice A2 n2 c2]] w fun e w'=>e= .returned (.bool true)∧ Below w.heap.size w w':=by
 obtain⟨q1,q2⟩:= zbv w 34 34 #[.int .i64 f.id,.bool f.re,.slice A n c] #[.int .i64 f.id,.bool f.re,.slice A2 n2 c2]
 have hbw:=zbp (zbp (Below.refl w.heap.size w) (.cells #[.int .i64 f.id,.bool f.re,.slice A n c] 34)) (.cells #[.int .i64 f.id,.bool f.re,.slice A2 n2 c2] 34)
 have HC:=zak (fun (W:World) (h:Below w.heap.size w W)=> And.intro (zca (w:=W) c hn (h1.below h)) (zca (w:=W) c2 hn2 (h2.below h)))
 obtain⟨id,re,data⟩:= f
 dsimp only at *
 have HB:=zak hbw
 obtain⟨q1_c0,q1_c1,q1_c2⟩:= zbr q1
 have q1_f:=q1.frozen
 obtain⟨q2_c0,q2_c1,q2_c2⟩:= zbr q2
 have q2_f:=q2.frozen
 clear hn hn2 h1 h2 hbw
 cases re
 all_goals
  go_enter Try.func45,Try.ntmps45
  obtain⟨k1,k2⟩:= HC.out _ HB.out
  go_wp2_with fail
  go_ret
  have hbw:=HB.out
  exact⟨rfl,bl⟩
theorem zl3 (L:List Frm) (A A2:Option Addr) (n c n2 c2:Nat) (w:World) (hn:n=L.length) (hn2:n2=L.length) (hl:n≤9223372036854775807) (h1:zl0 w A L) (h2:zl0 w A2 L) :
 Calls Try.prog 19 #[.slice A n c,.slice A2 n2 c2] w fun e w'=>e= .returned (.bool true)∧ Below w.heap.size w w':=by
 obtain rfl:n2=n:=by omega
 have HN:=zak hn
 have H1:=zak h1
 have H2:=zak h2
 clear hn hn2 h1 h2
 go_enter Try.func19,Try.ntmps19
 go_wp2_with fail
 go_loopw [5,11,12,13,14,15,16,17,18,19,20,21,22,23,24,25,26] (fun v5 _ _ _ _ _ _ _ _ _ _ _ _ _ _ _ _ wr=> ∃ k:Nat,v5= .int .i64 (k:Nat)∧ k≤n2∧Hid (Below w.heap.size w wr)) (fun v5 _ _ _ _ _ _ _ _ _ _ _ _ _ _ _ _ _=>n2 - (intOf v5).toNat)
 case atStart=>exact⟨0,rfl,Nat.zero_le _,zak (Below.refl _ _)⟩
 case round=>
  obtain⟨k,rfl,hk,HB⟩:= hrel
  by_cases hlt:k < n2
  · obtain⟨f,hf⟩:∃ f,L[k]? =some f:=⟨L[k]'(by rw[← HN.out];exact hlt),List.getElem?_eq_getElem _⟩
    obtain⟨b,off,Aj,cj,hA,⟨c0,c1,c2⟩,hs⟩:= (H1.out.below HB.out) k f hf
    obtain⟨b',off',Aj',cj',hA',⟨d0,d1,d2⟩,hs'⟩:= (H2.out.below HB.out) k f hf
    subst hA hA'
    replace c0:wr.cell? ⟨b,off+k * 3,none⟩=some (.int .i64 f.id):= c0
    replace d0:wr.cell? ⟨b',off'+k * 3,none⟩=some (.int .i64 f.id):= d0
    have zb:=zal c0
    have zb':=zal d0
    simp only at zb zb'
    have HS:=zak (fun W (h:Below wr.heap.size wr W)=> zl2 f Aj Aj' f.data.length cj f.data.length cj' W rfl rfl (hs.below h) (hs'.below h))
    clear hs hs' hf
    go_wp2_with fail
    refine wp_region_held_drew (S:=(fun w'=>(∀ qA:Addr,qA.block < (wr).heap.size→w'.cell? qA=(wr).cell? qA)∧ Below (wr).heap.size (wr) w')) (by kernel_rfl) ?hS1 (fun hHeld=>?rest1)
    case hS1=>((try dsimp only);(((try go_split_ands);refine zbn ?_;all_goals exact bl)))
    case' rest1=>skip
    iterate 8 (refine tkN ?_;try simp only[PqL,Act.put])
    refine wpAnyH_ready (rs:= [8]) (by kernel_rfl) (by simp) ?_
    refine AllReadyH.cons (o:=_) rfl (fun K hK=>?_) .nil
    go_simp
    refine (HS.out _ (Below.drew (Below.refl _ _))).mono ?_
    rintro e w2 ⟨rfl,hb2⟩
    replace hb2:Below wr.heap.size wr w2:=⟨hb2.os,hb2.tape,hb2.output,hb2.size,hb2.block⟩
    have HB2:=zak hb2
    refine hK.out _ _ ?hS12 (fun hHeld=>?rest12)
    case hS12=>((try dsimp only);(((try go_split_ands);refine zbn ?_;all_goals exact bl)))
    case' rest12=>(clear hK K;try simp only[PqL,Act.put])
    refine tkH 9 ?_
    try simp only[PqL,Act.put]
    refine wpAnyH_done (by kernel_rfl) ?_ _
    have hEnd:=hHeld.2
    repeat (clear hHeld)
    go_wp2_with fail
    exact⟨⟨k+1,by congr 1,by omega,zak (HB.out.trans (HB2.out.mono HB.out.size))⟩,by simp only[intOf];omega⟩
  · obtain rfl:k=n2:=by omega
    go_wp2_with fail
    go_ret
    exact⟨rfl,HB.out⟩
end
section
open Go.RowKit Go.Maps
set_option maxRecDepth 100000
set_option maxHeartbeats 8000000
section
variable {G:Nat→Prop} {p:Nat}
theorem u32n (n:Nat) (h:n≤100000):IntKind.u32.wrap (n:Int)=(n:Int):= by
 unfold IntKind.wrap
 simp[IntKind.signed,IntKind.bits]
 omega
theorem zl4 (T:RCli) (ix sub mode:Int) (b:List UInt8) (A:Option Addr) (n c:Nat) (w:World) (hS:RCV w G p T) (hb:cBegB ix sub mode=false) :
 Calls Try.prog 11 #[.pointer (some ⟨p,0,none⟩),.int .i64 ix,.int .i64 sub,.slice A n c,.int .i64 mode] w (zli w G p (rWriteS T ix sub b mode) (rWriteL T ix sub b mode)):= by
 obtain⟨R,hC⟩:= hS.rm
 have HF:Hid (zli w G p (rWriteS T ix sub b mode) (rWriteL T ix sub b mode) (.returned (.slice none 0 0)) w):= zak (by
  rw[show rWriteS T ix sub b mode=T by unfold rWriteS;rw[if_pos hb],show rWriteL T ix sub b mode= [] by unfold rWriteL;rw[if_pos hb]]
  exact zll hC (by simp) (by simp))
 obtain⟨P,hP⟩:∃ P,P=zli w G p (rWriteS T ix sub b mode) (rWriteL T ix sub b mode):= ⟨_,rfl⟩
 rw[← hP] at HF ⊢
 clear hS hC hP
 have HB:=zak hb
 clear hb
 go_enter Try.func11,Try.ntmps11
 go_wp2_with fail
 refine (zlo ix sub mode w HB.out).mono ?_
 rintro e W1 ⟨rfl,rfl⟩
 go_wp2_with fail
 exact HF.out
theorem zl5 (T:RCli) (ix sub mode:Int) (w:World) (hS:RCV w G p T) (hb:cBegB ix sub mode=false) :
 Calls Try.prog 15 #[.pointer (some ⟨p,0,none⟩),.int .i64 ix,.int .i64 sub,.int .i64 mode] w (zli w G p (rReadS T ix sub mode) (rReadL T ix sub mode)):= by
 obtain⟨R,hC⟩:= hS.rm
 have HF:Hid (zli w G p (rReadS T ix sub mode) (rReadL T ix sub mode) (.returned (.slice none 0 0)) w):= zak (by
  rw[show rReadS T ix sub mode=T by unfold rReadS;rw[if_pos hb],show rReadL T ix sub mode= [] by unfold rReadL;rw[if_pos hb]]
  exact zll hC (by simp) (by simp))
 obtain⟨P,hP⟩:∃ P,P=zli w G p (rReadS T ix sub mode) (rReadL T ix sub mode):= ⟨_,rfl⟩
 rw[← hP] at HF ⊢
 clear hS hC hP
 have HB:=zak hb
 clear hb
 go_enter Try.func15,Try.ntmps15
 go_wp2_with fail
 refine (zlo ix sub mode w HB.out).mono ?_
 rintro e W1 ⟨rfl,rfl⟩
 go_wp2_with fail
 exact HF.out
theorem zl6 (T:RCli) (ix sub mode:Int) (w:World) (hS:RCV w G p T) (hnd:1≤T.nd∧T.nd≤127) (hb:cBegB ix sub mode=true) :
 Calls Try.prog 15 #[.pointer (some ⟨p,0,none⟩),.int .i64 ix,.int .i64 sub,.int .i64 mode] w (zli w G p (rReadS T ix sub mode) (rReadL T ix sub mode)):= by
 obtain⟨R,hC⟩:= hS.rm
 have HC:=zak hC
 have HND:=zak hnd
 have HB:=zak hb
 obtain⟨P,hP⟩:∃ P,P=zli w G p (rReadS T ix sub mode) (rReadL T ix sub mode):= ⟨_,rfl⟩
 rw[← hP]
 have HP:=zak hP
 clear hS hC hnd hb hP
 go_enter Try.func15,Try.ntmps15
 go_wp2_with fail
 refine (zlp T R ix sub mode w HC.out HB.out).mono ?_
 rintro e W1 ⟨rfl,h1⟩
 have b1:W1.cell? ⟨p,1,none⟩=some (.int .i64 T.wk):= h1.blk.cell 1 rfl
 have f1:=h1.blk.frozen 1
 have z1:=h1.lt
 have H1:=zak h1.rnil
 clear h1
 have hbf: ¬ cBegB ix sub mode=false:=by rw[HB.out];decide
 by_cases hm:mode=2
 · have HP2:Hid (P=zli w G p { rBegS T ix sub with wk:=19 } (rSend T [buM ix sub])):= zak (by rw[HP.out];unfold rReadS rReadL;rw[if_neg hbf,if_neg hbf,if_pos hm,if_pos hm])
   subst hm
   have H2:Hid (RM w G p (rclL { rBegS T ix sub with wk:=19 } rrZ) [] _ (W1.setCell ⟨p,1,none⟩ (.int .i64 19))):= zak (H1.out.set 1 (.int .i64 19))
   have HS:=zak (zln (p:=p) T.nd (buM ix sub) none 0 0 _ (H2.out.blk.cell 0 rfl) HND.out rfl (Sl.nil _ _) ⟨Nat.zero_le _,Nat.zero_le _,Nat.zero_le _⟩)
   unfold msV buM at HS
   clear hbf
   go_wp2_with fail
   refine HS.out.mono ?_
   rintro e w2 ⟨As,ns,cs,ds,rfl,hO,hb⟩
   have HF:=zak (zlk (T:={ rBegS T ix sub with wk:=19 }) (R:=rrZ) H2.out (by simp[rBegS,rrZ]) (by simp[rBegS,rrZ]) ⟨As,ns,cs,ds,rfl,hO,hb⟩)
   clear hO hb
   go_wp2_with fail
   rw[HP2.out]
   exact HF.out
 · have HP2:Hid (P=zli w G p { rBegS T ix sub with wk:=14 } (rSend T [uplM ix sub])):= zak (by rw[HP.out];unfold rReadS rReadL;rw[if_neg hbf,if_neg hbf,if_neg hm,if_neg hm])
   have hm2:(mode == 2)=false:=by simp[hm]
   have H2:Hid (RM w G p (rclL { rBegS T ix sub with wk:=14 } rrZ) [] _ (W1.setCell ⟨p,1,none⟩ (.int .i64 14))):= zak (H1.out.set 1 (.int .i64 14))
   have HS:=zak (zln (p:=p) T.nd (uplM ix sub) none 0 0 _ (H2.out.blk.cell 0 rfl) HND.out rfl (Sl.nil _ _) ⟨Nat.zero_le _,Nat.zero_le _,Nat.zero_le _⟩)
   unfold msV uplM at HS
   clear hbf
   go_wp2_with fail
   refine HS.out.mono ?_
   rintro e w2 ⟨As,ns,cs,ds,rfl,hO,hb⟩
   have HF:=zak (zlk (T:={ rBegS T ix sub with wk:=14 }) (R:=rrZ) H2.out (by simp[rBegS,rrZ]) (by simp[rBegS,rrZ]) ⟨As,ns,cs,ds,rfl,hO,hb⟩)
   clear hO hb
   go_wp2_with fail
   rw[HP2.out]
   exact HF.out
theorem zl7 (T:RCli) (ix sub mode:Int) (b:List UInt8) (A:Option Addr) (n c:Nat) (w:World) (hS:RCV w G p T) (hnd:1≤T.nd∧T.nd≤127) (hb:cBegB ix sub mode=true) (hn:n=b.length) (hl:b.length≤100000) (hs:∀ W',zcd (fun q=>q=p) w W'→Sl W' A (b.map bv)) :
 Calls Try.prog 11 #[.pointer (some ⟨p,0,none⟩),.int .i64 ix,.int .i64 sub,.slice A n c,.int .i64 mode] w (zli w G p (rWriteS T ix sub b mode) (rWriteL T ix sub b mode)):= by
 obtain⟨R,hC⟩:= hS.rm
 have HC:=zak hC
 have HND:=zak hnd
 have HB:=zak hb
 have HN:=zak hn
 have HSL:=zak hs
 have hnb:n≤100000:=by omega
 obtain⟨P,hP⟩:∃ P,P=zli w G p (rWriteS T ix sub b mode) (rWriteL T ix sub b mode):= ⟨_,rfl⟩
 rw[← hP]
 have HP:=zak hP
 clear hS hC hnd hb hP hn hs hl
 go_enter Try.func11,Try.ntmps11
 go_wp2_with fail
 refine (zlp T R ix sub mode w HC.out HB.out).mono ?_
 rintro e W1 ⟨rfl,h1⟩
 have H1:=zak h1.rnil
 clear h1 HC
 go_wp2_with fail
 refine (zlg A n c b W1 HN.out (by omega) (HSL.out W1 H1.out.only)).mono ?_
 rintro e w3 ⟨A',c',rfl,hO,hb⟩
 have HY:=zak ((H1.out.step hb).row (hO.mono H1.out.size))
 have HOA:Hid (∀ ad,A'=some ad→ad.block < w3.heap.size):= zak (fun ad e=>((HY.out.rows ⟨A',n,c',b⟩ (by simp)).2.2.2 ad e).2.1)
 clear hO hb H1 HSL
 have b4:w3.cell? ⟨p,4,none⟩=some (.slice none 0 0):= HY.out.blk.cell 4 rfl
 have f4:=HY.out.blk.frozen 4
 have z3:=HY.out.lt
 obtain⟨rs,hrs⟩:∃ rs:List RB,rs=⟨A',n,c',b⟩ :: ⟨none,0,0,[]⟩ :: [⟨R.A,R.n,R.c,T.b⟩,⟨R.A2,R.n2,R.c2,T.data⟩]:= ⟨_,rfl⟩
 have HRS:=zak hrs
 have H4:Hid (RM w G p (rclL { rBegS T ix sub with b:=b } ⟨A',n,c',none,0,0⟩) [] rs (w3.setCell ⟨p,4,none⟩ (.slice A' n c'))):= zak (by rw[hrs];exact HY.out.set 4 (.slice A' n c'))
 clear HY hrs
 go_upto_region 4 with fail
 have hz34:(w3.setCell ⟨p,4,none⟩ (.slice A' n c')).heap.size=w3.heap.size:=by simp[World.setCell]
 refine zcn (P:=fun W=>RM w G p (rclL { rBegS T ix sub with b:=b } ⟨A',n,c',none,0,0⟩) [] rs W∧ ∀ ad,A'=some ad→ad.block < W.heap.size) ⟨H4.out,fun ad e=>by rw[hz34];exact HOA.out ad e⟩ (fun W2 h2=>?_)
 obtain⟨h2,hA2⟩:= h2
 have HA2:=zak hA2
 have H2:=zak h2
 clear H4 b4 f4 z3 hz34 HOA hA2
 have bb:=h2.blk
 unfold rclL rBegS at bb
 dsimp only at bb
 have b1:W2.cell? ⟨p,1,none⟩=some (.int .i64 T.wk):= bb.cell 1 rfl
 have f1:=bb.frozen 1
 have b4:W2.cell? ⟨p,4,none⟩=some (.slice A' n c'):= bb.cell 4 rfl
 have b15:W2.cell? ⟨p,15,none⟩=some (.bool false):= bb.cell 15 rfl
 have f15:=bb.frozen 15
 have z2:=bb.lt
 have hwr:=u32n n hnb
 have hbf: ¬ cBegB ix sub mode=false:=by rw[HB.out];decide
 clear bb h2
 by_cases hm:mode=2
 · have HP2:Hid (P=zli w G p { rBegS T ix sub with b:=b,wk:=16 } (rSend T [bdnM ix sub n])):= zak (by rw[HP.out];unfold rWriteS rWriteL;rw[if_neg hbf,if_neg hbf,if_pos hm,if_pos hm,HN.out])
   subst hm
   have H3:Hid (RM w G p (rclL { rBegS T ix sub with b:=b,wk:=16 } ⟨A',n,c',none,0,0⟩) [] rs (W2.setCell ⟨p,1,none⟩ (.int .i64 16))):= zak (H2.out.set 1 (.int .i64 16))
   have HS:=zak (zln (p:=p) T.nd (bdnM ix sub n) none 0 0 _ (H3.out.blk.cell 0 rfl) HND.out rfl (Sl.nil _ _) ⟨show n≤_ by omega,Nat.zero_le _,Nat.zero_le _⟩)
   unfold msV bdnM at HS
   clear hbf
   go_wp2_with fail
   refine HS.out.mono ?_
   rintro e w2 ⟨As,ns,cs,ds,rfl,hO,hb⟩
   have HF:=zak (zlk (T:={ rBegS T ix sub with b:=b,wk:=16 }) (R:=⟨A',n,c',none,0,0⟩) H3.out (by rw[HRS.out];simp) (by rw[HRS.out];simp[rBegS]) ⟨As,ns,cs,ds,rfl,hO,hb⟩)
   clear hO hb
   go_wp2_with fail
   rw[HP2.out]
   exact HF.out
 have hm2:(mode == 2)=false:=by simp[hm]
 by_cases hq:mode=0∧1≤n∧n≤4
 · have HP2:Hid (P=zli w G p { rBegS T ix sub with b:=b,wk:=12,qk:=true } (rSend T [downM ix sub true 0 b])):= zak (by
    have hq':mode=0∧1≤b.length∧b.length≤4:=by rw[← HN.out];exact hq
    rw[HP.out];unfold rWriteS rWriteL;rw[if_neg hbf,if_neg hbf,if_neg hm,if_neg hm,if_pos hq',if_pos hq'])
   obtain⟨hq0,hq1,hq2⟩:= hq
   subst hq0
   have h1n:(1:Int)≤ (n:Int):= by omega
   have hn4:(n:Int)≤ 4:=by omega
   have H5:Hid (RM w G p (rclL { rBegS T ix sub with b:=b,wk:=12,qk:=true } ⟨A',n,c',none,0,0⟩) [] rs (((W2.setCell ⟨p,1,none⟩ (.int .i64 12)).setCell ⟨p,15,none⟩ (.bool true)).alloc (.cells (msV (downM ix sub true 0 b) A' n c') 72))):= zak (((H2.out.set 1 (.int .i64 12)).set 15 (.bool true)).alloc (.cells (msV (downM ix sub true 0 b) A' n c') 72))
   have HS:=zak (zln (p:=p) T.nd (downM ix sub true 0 b) A' n c' _ (H5.out.blk.cell 0 rfl) HND.out HN.out (H5.out.sl (A:=A') (n:=n) (c:=c') (l:=b) (by rw[HRS.out];simp)) ⟨Nat.zero_le _,Nat.zero_le _,Nat.zero_le _⟩)
   unfold msV downM at HS H5
   dsimp only at HS H5
   clear hbf
   go_wp2_with fail
   refine HS.out.mono ?_
   rintro e w2 ⟨As,ns,cs,ds,rfl,hO,hb⟩
   have HF:=zak (zlk (T:={ rBegS T ix sub with b:=b,wk:=12,qk:=true }) (R:=⟨A',n,c',none,0,0⟩) H5.out (by rw[HRS.out];simp) (by rw[HRS.out];simp[rBegS]) ⟨As,ns,cs,ds,rfl,hO,hb⟩)
   clear hO hb
   go_wp2_with fail
   rw[HP2.out]
   exact HF.out
 · have HP2:Hid (P=zli w G p { rBegS T ix sub with b:=b,wk:=12 } (rSend T [downM ix sub true n []])):= zak (by
    have hq': ¬ (mode=0∧1≤b.length∧b.length≤4):= by rw[← HN.out];exact hq
    rw[HP.out];unfold rWriteS rWriteL;rw[if_neg hbf,if_neg hbf,if_neg hm,if_neg hm,if_neg hq',if_neg hq',HN.out])
   have H3:Hid (RM w G p (rclL { rBegS T ix sub with b:=b,wk:=12 } ⟨A',n,c',none,0,0⟩) [] rs (W2.setCell ⟨p,1,none⟩ (.int .i64 12))):= zak (H2.out.set 1 (.int .i64 12))
   have H5:=zak (H3.out.alloc (.cells (msV (downM ix sub true n []) none 0 0) 72))
   have HS:=zak (zln (p:=p) T.nd (downM ix sub true n []) none 0 0 _ (H5.out.blk.cell 0 rfl) HND.out rfl (Sl.nil _ _) ⟨show n≤_ by omega,Nat.zero_le _,Nat.zero_le _⟩)
   unfold msV downM at HS H5
   dsimp only at HS H5
   clear hbf
   have hcs:mode≠0∨(mode=0∧ ¬ 1≤n)∨ (mode=0∧1≤n∧ ¬ n≤4):= by omega
   rcases hcs with h0 | ⟨h0,h1⟩ | ⟨h0,h1,h4⟩
   · have h00:(mode == 0)=false:=by simp[h0]
     go_wp2_with fail
     refine HS.out.mono ?_
     rintro e w2 ⟨As,ns,cs,ds,rfl,hO,hb⟩
     have HF:=zak (zlk (T:={ rBegS T ix sub with b:=b,wk:=12 }) (R:=⟨A',n,c',none,0,0⟩) H5.out (by rw[HRS.out];simp) (by rw[HRS.out];simp[rBegS]) ⟨As,ns,cs,ds,rfl,hO,hb⟩)
     clear hO hb
     go_wp2_with fail
     rw[HP2.out]
     exact HF.out
   · subst h0
     have hi: ¬ (1:Int)≤ (n:Int):= by omega
     have hi2:(n:Int) < 1:=by omega
     go_wp2_with fail
     refine HS.out.mono ?_
     rintro e w2 ⟨As,ns,cs,ds,rfl,hO,hb⟩
     have HF:=zak (zlk (T:={ rBegS T ix sub with b:=b,wk:=12 }) (R:=⟨A',n,c',none,0,0⟩) H5.out (by rw[HRS.out];simp) (by rw[HRS.out];simp[rBegS]) ⟨As,ns,cs,ds,rfl,hO,hb⟩)
     clear hO hb
     go_wp2_with fail
     rw[HP2.out]
     exact HF.out
   · subst h0
     have hi:(1:Int)≤ (n:Int):= by omega
     have hi2: ¬ (n:Int)≤ 4:=by omega
     go_wp2_with fail
     refine HS.out.mono ?_
     rintro e w2 ⟨As,ns,cs,ds,rfl,hO,hb⟩
     have HF:=zak (zlk (T:={ rBegS T ix sub with b:=b,wk:=12 }) (R:=⟨A',n,c',none,0,0⟩) H5.out (by rw[HRS.out];simp) (by rw[HRS.out];simp[rBegS]) ⟨As,ns,cs,ds,rfl,hO,hb⟩)
     clear hO hb
     go_wp2_with fail
     rw[HP2.out]
     exact HF.out
theorem zl8 (T:RCli) (ix sub mode:Int) (b:List UInt8) (A:Option Addr) (n c:Nat) (w:World) (hS:RCV w G p T) (hnd:1≤T.nd∧T.nd≤127) (hn:n=b.length) (hl:b.length≤100000) (hs:∀ W',zcd (fun q=>q=p) w W'→Sl W' A (b.map bv)) :
 Calls Try.prog 11 #[.pointer (some ⟨p,0,none⟩),.int .i64 ix,.int .i64 sub,.slice A n c,.int .i64 mode] w (zli w G p (rWriteS T ix sub b mode) (rWriteL T ix sub b mode)):= by
 cases hb:cBegB ix sub mode
 · exact zl4 T ix sub mode b A n c w hS hb
 · exact zl7 T ix sub mode b A n c w hS hnd hb hn hl hs
theorem zl9 (T:RCli) (ix sub mode:Int) (w:World) (hS:RCV w G p T) (hnd:1≤T.nd∧T.nd≤127) :
 Calls Try.prog 15 #[.pointer (some ⟨p,0,none⟩),.int .i64 ix,.int .i64 sub,.int .i64 mode] w (zli w G p (rReadS T ix sub mode) (rReadL T ix sub mode)):= by
 cases hb:cBegB ix sub mode
 · exact zl5 T ix sub mode w hS hb
 · exact zl6 T ix sub mode w hS hnd hb
end
end
section
open Go.RowKit Go.Maps
set_option maxRecDepth 100000
set_option maxHeartbeats 4000000
theorem zma {w w':World} (h:Below w.drew.heap.size w.drew w'):Below w.heap.size w w':=⟨h.os,h.tape,h.output,h.size,h.block⟩
theorem zmb {W1 w3:World} {z:Obj} (h:Below (W1.heap.size+1) (W1.alloc z).drew w3):Below W1.heap.size W1 w3:=(zbp (Below.refl _ _) z).trans (Below.mono (B:=W1.heap.size+1) ⟨h.os,h.tape,h.output,h.size,h.block⟩ (by omega))
theorem zmc {W1 w3:World} {t:TypeId} {cs:Array Value} (h:Below (W1.heap.size+1) (W1.alloc (.cells cs t)).drew w3):Blk w3 W1.heap.size t cs:=Blk.below (w:=(W1.alloc (.cells cs t)).drew) (Blk.new W1 t cs) h (by omega)
def rmL (M:Ms) (A:Option Addr) (n c:Nat):List Value:= [.int .i64 M.kind,.int .i64 M.ix,.int .i64 M.sub,.bool M.tg,.bool M.la,.bool M.cr,.bool M.sz,.int .u32 (M.size:Nat),.int .u32 (M.code:Nat),.slice A n c,.int .i64 M.sq,.int .i64 M.bl,.int .i64 M.em,.int .u16 (M.sum:Nat)]
def msZr:Ms:=⟨0,0,0,false,false,false,false,0,0,[],0,0,0,0⟩
def MkC (W:World) (M:Ms) (n:Nat) (d:List UInt8) (s:Value) (wx:World):Prop:=
 ∃ gk A5 c5,s= .pointer (some ⟨gk,0,none⟩)∧ W.heap.size≤gk∧Below W.heap.size W wx∧Blk wx gk 72 (rmL M A5 n c5).toArray∧zb7 wx W.heap.size A5 n c5 d
theorem zmd {W w3:World} {M:Ms} {n:Nat} {d:List UInt8} {A5:Option Addr} {c5:Nat} (hb:Below W.heap.size W w3) (hO:zb7 w3 W.heap.size A5 n c5 d):MkC W M n d (.pointer (some ⟨w3.heap.size,0,none⟩)) (w3.alloc (.cells (rmL M A5 n c5).toArray 72)):=
 ⟨w3.heap.size,A5,c5,rfl,hb.size,zbp hb _,Blk.new _ _ _,hO.alloc _⟩
theorem zme {W w3:World} {M:Ms} {n:Nat} {d:List UInt8} {A5:Option Addr} {c5:Nat} (hb:Below W.heap.size W w3) (hZ:Blk w3 W.heap.size 72 (msV msZr none 0 0)) (hO:zb7 w3 (W.heap.size+1) A5 n c5 d):MkC W M n d (.pointer (some ⟨W.heap.size,0,none⟩)) (w3.setCells W.heap.size 0 (rmL M A5 n c5)):= by
 have h1:=zcl (rmL M A5 n c5) 0 (l:=(msV msZr none 0 0).toList) hZ (by simp[rmL,msV])
 have o1:=zcm (F:=fun q=>q=W.heap.size) rfl (rmL M A5 n c5) 0 (zcd.refl _ w3)
 refine⟨W.heap.size,A5,c5,rfl,Nat.le_refl _,hb.trans (o1.below hb.size (fun i h=>by omega)),h1,?_⟩
 exact zb7.mono ⟨hO.hn,hO.own.keep fun g h1 h2 _=>o1.block g h2 (fun (e:g=W.heap.size)=> by omega)⟩ (by omega)
section
variable {w0:World} {G:Nat→Prop} {p:Nat} {ks:List KB} {rs:List RB}
theorem zmf (b:List UInt8) (n:Nat) (hn:n=b.length):(n=0→btotal b=1)∧ (n≠0→btotal b=(n+6) / 7):= by
 unfold btotal
 constructor<;>intro h<;>omega
theorem zmg (W:World) (A:Option Addr) (n c:Nat) (b:List UInt8) (h4:W.cell? ⟨p,4,none⟩=some (.slice A n c)) (hn:n=b.length) (hl:n≤1000000) :
 Calls Try.prog 65 #[.pointer (some ⟨p,0,none⟩)] W fun e W'=>e= .returned (.int .i64 (btotal b:Nat))∧ W=W':=by
 obtain⟨t0,t1⟩:= zmf b n hn
 have HT0:=zak t0
 have HT1:=zak t1
 clear t0 t1 hn
 by_cases h0:n=0
 · subst h0
   go_enter Try.func65,Try.ntmps65
   go_wp2_with fail
   go_ret
   exact⟨zau (by rw[HT0.out trivial];rfl),rfl⟩
 · have h1:((n:Int) == 0)=false:=by simp;omega
   have h2: ¬ (n:Int)=0:=by omega
   have HN:=zak h0
   clear h0
   go_enter Try.func65,Try.ntmps65
   go_wp2_with fail
   go_ret
   exact⟨zau (by rw[HT1.out HN.out];simp),rfl⟩
end
end
end Go.Proofs.Ythdbckbpldlkeaa
