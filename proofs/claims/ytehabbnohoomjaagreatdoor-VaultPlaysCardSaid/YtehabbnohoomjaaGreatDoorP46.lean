/- None -/
import Derived.Test.YtehabbnohoomjaaGreatDoorP45
namespace Go.Proofs.YtehabbnohoomjaaGreatDoor
set_option linter.unusedVariables false
set_option linter.unusedSimpArgs false
set_option linter.unnecessarySimpa false
section
open Go.RowKit
set_option maxRecDepth 20000
set_option maxHeartbeats 8000000
theorem zz4 {L:List Ent} (hr:∀ E ∈ L,rightE E=0) {J:JS} {S:FS} {kd:Int} {l:List SV} {R:JS×FS×Int} (hl:S.b.length=1024 * S.wear.length) (h:RunK J S) (hg:GoodX L l) (hkd:kd=1∨(kd=2∧l= [])) (hW:WrP J S kd l R) :
 RunK R.1 R.2.1∧R.2.1.ops≤S.ops+1000∧R.2.1.b.length=1024 * R.2.1.wear.length∧(R.2.1.off=false→S.off=false):= by
 obtain⟨b,er,hB,hc⟩:= hW
 obtain⟨h03,hd960⟩:= zxo hr hg hB
 rcases hc with ⟨_,rfl⟩ | ⟨h0,hR⟩
 · exact⟨h,by simp only[];omega,hl,fun h=>h⟩
 · subst h0
   by_cases hoff:S.off=true
   · have hR2:R.2=(S,7):= by
      rw[hR]
      unfold appJ
      rw[if_pos (by rw[hoff];simp)]
     rw[hR2]
     exact⟨.inl hoff,by simp only[];omega,hl,fun h=>h⟩
   · have hoff:S.off=false:=by simpa using hoff
     have hJ:J=openJ S:=h.elim (fun h=>by rw[hoff] at h;cases h) (fun h=>h.1)
     subst hJ
     have hbk:kd=1∨(kd=2∧b= []):= by
      rcases hkd with h | ⟨h,rfl⟩
      · exact .inl h
      · exact .inr ⟨h,(zw9 hB).2.2⟩
     have hrr:rightR kd (numJ (openJ S)+1) b.length=0:=by
      unfold rightR
      rcases hbk with rfl | ⟨rfl,rfl⟩
      · rw[if_neg (by omega),if_neg (by omega),if_neg (by decide),if_neg (by omega)]
      · rw[if_neg (by omega),if_pos ⟨rfl,rfl⟩]
     by_cases hm:numJ (openJ S)=4294967295
     · have hR2:R=(openJ S,S,6):= by
        rw[hR]
        unfold appJ
        rw[if_neg (by rw[show (openJ S).dead=false from rfl,hoff];decide),if_pos hm]
       rw[hR2]
       exact⟨.inr ⟨rfl,hoff⟩,by simp only[];omega,hl,fun h=>h⟩
     · obtain⟨J',S',e⟩:= R
       have hop:S'.ops≤S.ops+1000:=by
        have h1:=zxe (openJ S) S kd b
        rw[← hR] at h1
        have hu:=zj8 (S:=S)
        rw[zk0] at hu
        have h2:=(zfa [] [] b kd (numJ (openJ S)+1) hrr (by unfold U32 at hu ⊢;omega)).2
        rw[h2] at h1
        simp only[] at h1
        omega
       rcases zg5 hl hoff hm hrr hR.symm with ⟨rfl,rfl,_,_⟩ | ⟨i,y,er,hs⟩
       · exact⟨.inr ⟨rfl,hoff⟩,hop,hl,fun h=>h⟩
       · refine⟨?_,hop,by rw[hs.kept.len,hs.kept.wear];exact hl,fun _=>hoff⟩
         rcases hs.ends with ⟨rfl,h2,_⟩ | ⟨_,_,h2,_⟩
         · exact .inr ⟨zhc hs,h2⟩
         · exact .inl h2
section
variable {M lo pw pd pt pv prv n:Nat} {qf qr:FP} {L:List Ent} {V:List (List UInt8)} {J:JS} {S:FS} {X:List SV} {odd off:Bool} {FR:Nat→Prop}
theorem zz5 (hs:SortedE L) (hr:∀ E ∈ L,rightE E=0) (hv:ValsP L V) (hl200:L.length≤200) {R:JS×FS×Int} {gr:Int} (w:World) (h:zzz w FR lo pw pd pt pv prv qf qr n L V S X odd off) (hlo:lo≤w.heap.size) (hpw:pw < w.heap.size) (hn:n≤1000) (hX:GoodX L X) (h1:1≤gr∧gr≤4) (hrun:RunK J S) (hops:S.ops+2000 < 4611686018427387904) (hW:WrP J S 1 (joinV (dropL X gr) (ofV L V gr)) R) :
 Calls Tryz.prog 70 #[.pointer (some ⟨prv,0,none⟩),.pointer (some ⟨pt,0,none⟩),.int .i64 gr] w fun e w'=>e= .returned (.int .u32 (codeV R.2.2:Nat))∧ zzz w' (FN FR w w') lo pw pd pt pv prv qf qr n L V R.2.1 (if R.2.2=0 then joinV (dropL X gr) (ofV L V gr) else X) (if R.2.2=0 then false else odd) (off || decide (R.2.2=7))∧ zcj (fun g=>FR g∧g≠pw) w w':=by
 obtain⟨rj,A,c,FX,As,ns,cs,dx,Al,clt,Avt,cvt,dt,et,Ft,h⟩:= h
 exact (zyv hs hr hv hl200 w h.rv hX h.dr hn h1 hrun hops hW).mono (fun e w' hk=>zz3 h hlo hpw hk)
theorem zz6 (hs:SortedE L) (hr:∀ E ∈ L,rightE E=0) (hl200:L.length≤200) {R:JS×FS×Int} {gr:Int} (w:World) (h:zzz w FR lo pw pd pt pv prv qf qr n L V S X odd off) (hlo:lo≤w.heap.size) (hpw:pw < w.heap.size) (hX:GoodX L X) (h1:1≤gr∧gr≤4) (hrun:RunK J S) (hops:S.ops+2000 < 4611686018427387904) (hW:WrP J S (if (dropL X gr).length=0 then 2 else 1) (dropL X gr) R) :
 Calls Tryz.prog 71 #[.pointer (some ⟨prv,0,none⟩),.int .i64 gr] w fun e w'=>e= .returned (.int .u32 (codeV R.2.2:Nat))∧ zzz w' (FN FR w w') lo pw pd pt pv prv qf qr n L V R.2.1 (if R.2.2=0 then dropL X gr else X) (if R.2.2=0 then false else odd) (off || decide (R.2.2=7))∧ zcj (fun g=>FR g∧g≠pw) w w':=by
 obtain⟨rj,A,c,FX,As,ns,cs,dx,Al,clt,Avt,cvt,dt,et,Ft,h⟩:= h
 exact (zyw hs hr hl200 w h.rv hX h1 hrun hops hW).mono (fun e w' hk=>zz3 h hlo hpw hk)
theorem zz7 (k m:Nat) (w:World) (h:zzz w FR lo pw pd pt pv prv qf qr n L V S X odd off) (hpw:pw < w.heap.size) (hk:k≤9223372036854775807) (hm:U32 m) :
 Calls Tryz.prog 74 #[.pointer (some ⟨qr.p,0,none⟩),.int .i64 (k:Nat),.int .u32 (m:Nat)] w fun e w'=>e= .returned (.int .i64 0)∧ zzz w' FR lo pw pd pt pv prv qf qr n L V { S with ahead:=(k:Nat),mask:=m } X odd off∧zcj (fun g=>FR g∧g≠pw) w w':=by
 obtain⟨rj,A,c,FX,As,ns,cs,dx,Al,clt,Avt,cvt,dt,et,Ft,h⟩:= h
 refine (zzd qr S k m w h.rv.fd hk hm).mono ?_
 rintro e w' ⟨rfl,hF,ho⟩
 have hz:=ho.size
 have hq:FR qr.p:=h.inR _ (.inr (.inr (.inl (.inl rfl))))
 have hqw:=(h.fr _ hq).2.2
 obtain⟨S0,h1,h2⟩:= h.rv.jb
 refine⟨rfl,⟨rj,A,c,FX,As,ns,cs,dx,Al,clt,Avt,cvt,dt,et,Ft,(ho.block pw hpw (fun e=>hqw e.symm)).trans h.blk,h.dr.keep (fun g hg hl=>ho.block g hl (fun e=>(h.inT g hg).2.2.2.1 (by rw[e];exact .inl rfl))),⟨(ho.block prv h.rv.blk.lt (fun e=>h.rv.prq (by rw[e];exact .inl rfl))).trans h.rv.blk,?_,hF,h.rv.row.keep (fun g hg hl=>ho.block g hl (fun e=>(h.rv.fx g hg).2.2.1 (by rw[e];exact .inl rfl))),h.rv.prr,h.rv.prq,h.rv.rq,fun g hg=>⟨(h.rv.fx g hg).1,(h.rv.fx g hg).2.1,(h.rv.fx g hg).2.2.1,Nat.lt_of_lt_of_le (h.rv.fx g hg).2.2.2 hz⟩⟩,h.inT,h.inR,fun g hg=>⟨(h.fr g hg).1,Nat.lt_of_lt_of_le (h.fr g hg).2.1 hz,(h.fr g hg).2.2⟩⟩,ho.mono (fun g _ hg=>by rw[hg];exact⟨hq,hqw⟩)⟩
 have hb:Blk w' rj 166 (rjS qr.p S0 A c S.off).toArray:=(ho.block rj h2.lt (fun e=>h.rv.rq (by rw[e];exact .inl rfl))).trans h2
 by_cases hof:S.off=false
 · have e0:=h1 hof
   subst e0
   exact⟨_,fun _=>rfl,hb⟩
 · exact⟨S0,fun h=>absurd h hof,hb⟩
theorem zz8 {v4 v5:Value} {w:World} (h:zzl v4 v5 (KR pw FR) M lo w pw pd pv qf n L V J S X odd off) (hR:zzz w FR lo pw pd pt pv prv qf qr n L V S X odd off):PreE M lo w pw pd pt qf qr n L V S:=by
 obtain⟨gl,cl,cv,Av,ds,es,Fd,pt',pr',Fj,FL,pj,nj,cj,Aj,dj,As',ns',cs',dx',h⟩:= h
 obtain⟨rj,A,c,FX,As,ns,cs,dx,Al,clt,Avt,cvt,dt,et,Ft,k⟩:= hR
 refine⟨gl,cl,cv,Av,ds,es,Fd,Al,clt,Avt,cvt,dt,et,Ft,⟨_,_,k.blk⟩,h.db,k.dr,h.hn,h.vd.fd,k.rv.fd,h.loP,h.loM,?_,?_,?_,?_⟩
 · intro g hg
   obtain⟨h1,h2,h3,h4,h5⟩:= h.inD g hg
   exact⟨h1,h2,h3,fun hx=>h5 (.inr (.inl hx)),fun hx=>h4 (.inr (k.inT g hx).1),fun hx=>h4 (.inr (k.inR g (.inr (.inr (.inl hx)))))⟩
 · intro g hg
   obtain⟨k0,k1,k2,k3,k4⟩:= k.inT g hg
   have:=k.fr g k0
   exact⟨this.1,this.2.1,this.2.2,fun hx=>(h.inV g (.inr (.inl hx))).2.2.2 (.inr k0),k3⟩
 · intro g hg
   obtain⟨h1,h2,h3,h4⟩:= h.inV g (.inr (.inl hg))
   exact⟨h1,h2,h3,fun hx=>h4 (.inr (k.inR g (.inr (.inr (.inl hx)))))⟩
 · intro g hg
   exact k.fr g (k.inR g (.inr (.inr (.inl hg))))
theorem zz9 {w w':World} (h:PreE M lo w pw pd pt qf qr n L V S) {S':FS} (hF:FD w' qf S') (ho:zcj (fun g=>g=qf.p) w w'):(∃ gl cl cv Av ds es Fd Al clt Avt cvt dt et Ft,∀ w'',zcj (fun g=>g=qr.p) w' w''→RF w'' qr S'→Pre M lo w'' pw pd pt qf qr n L V S' gl cl cv Av ds es Fd Al clt Avt cvt dt et Ft):= by
 obtain⟨gl,cl,cv,Av,ds,es,Fd,Al,clt,Avt,cvt,dt,et,Ft,h⟩:= h
 refine⟨gl,cl,cv,Av,ds,es,Fd,Al,clt,Avt,cvt,dt,et,Ft,fun w'' ho2 hR=>?_⟩
 have hO:zcj (fun g=>g=qf.p∨g=qr.p) w w'':=(ho.mono (fun _ _ h=> .inl h)).trans ho2 (fun _ _ h=> .inr h)
 have hz:=hO.size
 have p1:qf.F qf.p:= .inl rfl
 have p2:qr.F qr.p:= .inl rfl
 have hne:∀ g,qf.F g→ ¬ g=qr.p:=fun g hg e=>(h.inQ g hg).2.2.2 (by rw[e];exact p2)
 obtain⟨v4,v5,hB⟩:= h.blk
 have ew:pw≠qf.p∧pw≠qr.p:=⟨fun e=>(h.inQ _ p1).2.2.1 e.symm,fun e=>(h.inR _ p2).2.2 e.symm⟩
 refine⟨⟨v4,v5,(hO.block pw hB.lt (fun hx=>hx.elim ew.1 ew.2)).trans hB⟩,h.db.keep (fun g hg hl=>hO.block g hl (fun hx=>hx.elim (fun e=>(h.inD g hg).2.2.2.1 (by rw[e];exact p1)) (fun e=>(h.inD g hg).2.2.2.2.2 (by rw[e];exact p2)))),h.dr.keep (fun g hg hl=>hO.block g hl (fun hx=>hx.elim (fun e=>(h.inT g hg).2.2.2.1 (by rw[e];exact p1)) (fun e=>(h.inT g hg).2.2.2.2 (by rw[e];exact p2)))),h.hn,hF.only ho2 (fun g hg e=>hne g hg e),hR,h.loP,h.loM,fun g hg=>?_,fun g hg=>?_,fun g hg=>?_,fun g hg=>?_⟩
 · have:=h.inD g hg;exact⟨this.1,by omega,this.2.2⟩
 · have:=h.inT g hg;exact⟨this.1,by omega,this.2.2⟩
 · have:=h.inQ g hg;exact⟨this.1,by omega,this.2.2⟩
 · have:=h.inR g hg;exact⟨this.1,by omega,this.2.2⟩
end
end
section
open Go.RowKit
set_option maxRecDepth 20000
set_option maxHeartbeats 8000000
section
variable {M lo pw pd pt n:Nat} {qf qr:FP} {L:List Ent} {V:List (List UInt8)} {S:FS}
def PlOpen (M lo pw pd pt:Nat) (qf qr:FP) (n:Nat) (L:List Ent) (V:List (List UInt8)) (S:FS) (w:World) (e:Ending) (w':World):Prop:=
 e= .returned (.bool true)∧ zcj (fun g=>g=pw) w w'∧ ∃ pv prv FR,zzl (.pointer (some ⟨pv,0,none⟩)) (.pointer (some ⟨prv,0,none⟩)) (KR pw FR) M lo w' pw pd pv qf n L V (openJ S) S (recX L (openJ S)).1 (recX L (openJ S)).2 false∧zzz w' FR lo pw pd pt pv prv qf qr n L V S (recX L (openJ S)).1 (recX L (openJ S)).2 false
theorem z0a (w:World) (h:PreE M lo w pw pd pt qf qr n L V S) (hs:SortedE L) (hn:n≤1000) (hoff:S.off=false) (h3:3≤S.wear.length) :
 Calls Tryz.prog 31 #[.pointer (some ⟨pw,0,none⟩)] w (PlOpen M lo pw pd pt qf qr n L V S w):= by
 obtain⟨gl,cl,cv,Av,ds,es,Fd,Al,clt,Avt,cvt,dt,et,Ft,h⟩:= h
 have HH:=zak h
 obtain⟨v4,v5,hB⟩:= h.blk
 have HB:=zak hB
 have zw:=hB.lt
 have hlo:=h.loP
 have hloM:=h.loM
 have c0:=hB.cell 0 (u:= .pointer (some ⟨pd,0,none⟩)) rfl
 have c1:=hB.cell 1 (u:= .pointer (some ⟨pt,0,none⟩)) rfl
 have c2:=hB.cell 2 (u:= .pointer (some ⟨qf.p,0,none⟩)) rfl
 have c3:=hB.cell 3 (u:= .pointer (some ⟨qr.p,0,none⟩)) rfl
 have HOF:=zak hoff
 have H3:=zak h3
 have HS:=zak hs
 have HLO:=zak (And.intro hlo hloM)
 have HZW:=zak zw
 clear h hB hs hoff h3 hlo hloM zw
 go_enter Tryz.func31,Tryz.ntmps31
 go_wp2_with fail
 refine wp_region_held_drew (S:=(fun w'=>w'.cell? ⟨pw,0,none⟩=some (.pointer (some ⟨pd,0,none⟩))∧ w'.cell? ⟨pw,2,none⟩=some (.pointer (some ⟨qf.p,0,none⟩)))) (by kernel_rfl) ?hS1 (fun hHeld=>?rest1)
 case hS1=>((try dsimp only);(exact⟨c0,c2⟩))
 case' rest1=>skip
 iterate 8 (refine tkN ?_;try simp only[PqL,Act.put])
 refine wpAnyH_ready (rs:= [8]) (by kernel_rfl) (by simp) ?_
 refine AllReadyH.cons (o:=_) rfl (fun K hK=>?_) .nil
 go_simp
 refine (zw1 M qf S _ (HH.out.fd.below (Below.drew (Below.refl w.heap.size w))) HOF.out H3.out (show M≤w.heap.size by have:=HLO.out;have:=HZW.out;omega) (fun g hg=>⟨(HH.out.inQ g hg).2.1,by have:=(HH.out.inQ g hg).1;have:=HLO.out;omega⟩) (HH.out.db.below (Below.drew (Below.refl w.heap.size w))) HS.out hn).mono ?_
 rintro e w1 ⟨pv,pj,Aj,nj,cj,dj,As,ns,cs,dx,rfl,hV,hpv,hb1⟩
 have hV':VD w1 M (fun g=>w.heap.size≤g∧g < pv) (fun g=>pv < g∧g < w1.heap.size) pv pj qf Aj nj cj dj As ns cs dx (openJ S) S (recX L (openJ S)).1 (recX L (openJ S)).2 false:=hV
 have HV:=zak hV'
 have hb01:Below w.heap.size w w1:=(Below.drew (Below.refl w.heap.size w)).trans hb1
 have HB1:=zak hb01
 have hpv':w.heap.size≤pv:=hpv
 have HPV:=zak (And.intro hpv' hV'.blk.lt)
 have d0:=(hb01.cell (p:=⟨pw,0,none⟩) HZW.out).trans c0
 have d2:=(hb01.cell (p:=⟨pw,2,none⟩) HZW.out).trans c2
 have d1:=(hb01.cell (p:=⟨pw,1,none⟩) HZW.out).trans c1
 have d3:=(hb01.cell (p:=⟨pw,3,none⟩) HZW.out).trans c3
 clear hV hV' hb1 hb01 hpv hpv'
 dsimp only
 refine hK.out _ _ ?hS12 (fun hHeld=>?rest12)
 case hS12=>((try dsimp only);(exact⟨d0,d2⟩))
 case' rest12=>(clear hK K;try simp only[PqL,Act.put])
 refine tkH 9 ?_
 try simp only[PqL,Act.put]
 refine tkH 10 ?_
 try simp only[PqL,Act.put]
 refine tkH 11 ?_
 try simp only[PqL,Act.put]
 refine tkH 12 ?_
 try simp only[PqL,Act.put]
 refine tkH 13 ?_
 try simp only[PqL,Act.put]
 refine wpAnyH_done (by kernel_rfl) ?_ _
 have hEnd:=hHeld.2
 repeat (clear hHeld)
 clear hEnd c0 c1 c2 c3 d0 d2
 go_wp2_with fail
 refine wp_region_held_drew (S:=(fun w'=>w'.cell? ⟨pw,1,none⟩=some (.pointer (some ⟨pt,0,none⟩))∧ w'.cell? ⟨pw,3,none⟩=some (.pointer (some ⟨qr.p,0,none⟩)))) (by kernel_rfl) ?hS19 (fun hHeld=>?rest19)
 case hS19=>((try dsimp only);(exact⟨d1,d3⟩))
 case' rest19=>skip
 iterate 8 (refine tkN ?_;try simp only[PqL,Act.put])
 refine wpAnyH_ready (rs:= [8]) (by kernel_rfl) (by simp) ?_
 refine AllReadyH.cons (o:=_) rfl (fun K hK=>?_) .nil
 go_simp
 refine (zza HS.out qr S _ ((HH.out.rf.below HB1.out).below (Below.drew (Below.refl w1.heap.size w1))) HOF.out H3.out ((HH.out.dr.below HB1.out).below (Below.drew (Below.refl w1.heap.size w1))) hn).mono ?_
 rintro e w2 ⟨prv,rj,A,c,FX,Ar,nr,cr,dr,rfl,hR,hfx,hprv,hrj,hb2⟩
 have hb12:Below w1.heap.size w1 w2:=(Below.drew (Below.refl w1.heap.size w1)).trans hb2
 have HR:=zak hR
 have HFX:=zak (show ∀ g,FX g→w1.heap.size≤g∧g < w2.heap.size from hfx)
 have HPR:=zak (show w1.heap.size≤prv∧w1.heap.size≤rj from ⟨hprv,hrj⟩)
 have HB2:=zak hb12
 have hZ1:pw < w1.heap.size:=Nat.lt_of_lt_of_le HZW.out HB1.out.size
 have e1:=(hb12.cell (p:=⟨pw,1,none⟩) hZ1).trans d1
 have e3:=(hb12.cell (p:=⟨pw,3,none⟩) hZ1).trans d3
 have hB2:Blk w2 pw 44 #[.pointer (some ⟨pd,0,none⟩),.pointer (some ⟨pt,0,none⟩),.pointer (some ⟨qf.p,0,none⟩),.pointer (some ⟨qr.p,0,none⟩),v4,v5]:= (HB.out.below HB1.out HZW.out).below hb12 hZ1
 have HBB:=zak hB2
 clear hR hfx hprv hrj hb2 hb12
 dsimp only
 refine hK.out _ _ ?hS30 (fun hHeld=>?rest30)
 case hS30=>((try dsimp only);(exact⟨e1,e3⟩))
 case' rest30=>(clear hK K;try simp only[PqL,Act.put])
 refine tkH 9 ?_
 try simp only[PqL,Act.put]
 refine tkH 10 ?_
 try simp only[PqL,Act.put]
 refine tkH 11 ?_
 try simp only[PqL,Act.put]
 refine tkH 12 ?_
 try simp only[PqL,Act.put]
 refine tkH 13 ?_
 try simp only[PqL,Act.put]
 refine wpAnyH_done (by kernel_rfl) ?_ _
 have hEnd:=hHeld.2
 repeat (clear hHeld)
 have f4:=hB2.frozen 4
 have f5:=hB2.frozen 5
 have g4:=hB2.cell 4 (u:=v4) rfl
 have g5:=hB2.cell 5 (u:=v5) rfl
 clear hEnd d1 d3 e1 e3 hB2
 go_wp2_with fail
 go_ret
 have zA:=HZW.out
 have zB:=HB1.out.size
 have zC:=HB2.out.size
 have zD:=HPV.out
 have zE:=HPR.out
 have zL:=HLO.out
 obtain⟨W,hW⟩:∃ W,W=(w2.setCell ⟨pw,4,none⟩ (.pointer (some ⟨pv,0,none⟩))).setCell ⟨pw,5,none⟩ (.pointer (some ⟨prv,0,none⟩)):= ⟨_,rfl⟩
 rw[← hW]
 have hBW:Blk W pw 44 #[.pointer (some ⟨pd,0,none⟩),.pointer (some ⟨pt,0,none⟩),.pointer (some ⟨qf.p,0,none⟩),.pointer (some ⟨qr.p,0,none⟩),.pointer (some ⟨pv,0,none⟩),.pointer (some ⟨prv,0,none⟩)]:= by
  rw[hW];exact (HBB.out.set_ 4 _).set_ 5 _
 have hO:zcj (fun g=>g=pw) w2 W:=by rw[hW];exact zhe _ _ _ _
 have zW:=hO.size
 have hlt2:w2.heap.size=W.heap.size:=by rw[hW];simp[World.setCell]
 refine⟨rfl,((zcj.of_below HB1.out).trans (zcj.of_below HB2.out:zcj (fun g=>g=pw) w1 w2) (fun _ _ h=>h)).trans hO (fun _ _ h=>h),pv,prv,fun g=>Ft g∨qr.F g∨(w1.heap.size≤g∧g < w2.heap.size),?_,?_⟩
 · refine⟨gl,cl,cv,Av,ds,es,Fd,pt,qr.p,_,_,pj,nj,cj,Aj,dj,As,ns,cs,dx,hBW,((HH.out.db.below HB1.out).below HB2.out).keep (fun g hg hl=>hO.block g hl (HH.out.inD g hg).2.2.1),HH.out.hn,(HV.out.below HB2.out).only hO (fun g hg hx=>?_),?_,?_,?_,HLO.out.1,HLO.out.2⟩
   · rcases hx with k | k | k | k
     · omega
     · exact (HH.out.inQ g k).2.2.1 hg
     · omega
     · omega
   · intro g hg
     obtain⟨k1,k2,k3,k4,k5,k6⟩:= HH.out.inD g hg
     refine⟨k1,by omega,k3,?_,?_⟩
     · rintro (k | k | k | k)
       · exact k3 k
       · exact k5 k
       · exact k6 k
       · omega
     · rintro (k | k | k | k)
       · omega
       · exact k4 k
       · omega
       · omega
   · intro g hg
     have base:qf.F g∨(w.heap.size≤g∧g < w1.heap.size):= by
      rcases hg with k | k | k | k
      · exact .inr ⟨k.1,by omega⟩
      · exact .inl k
      · exact .inr ⟨by omega,k.2⟩
      · exact .inr ⟨by omega,by omega⟩
     rcases base with k | k
     · obtain⟨k1,k2,k3,k4⟩:= HH.out.inQ g k
       refine⟨k1,by omega,k3,?_⟩
       rintro (m | m | m | m)
       · exact k3 m
       · exact (HH.out.inT g m).2.2.2.1 k
       · exact k4 m
       · omega
     · refine⟨by omega,by omega,by omega,?_⟩
       rintro (m | m | m | m)
       · omega
       · have:=(HH.out.inT g m).2.1;omega
       · have:=(HH.out.inR g m).2.1;omega
       · omega
   · rintro g (m | m | m | m)
     · omega
     · have:=(HH.out.inT g m).2.1;omega
     · have:=(HH.out.inR g m).2.1;omega
     · omega
 · refine⟨rj,A,c,FX,Ar,nr,cr,dr,Al,clt,Avt,cvt,dt,et,Ft,hBW,((HH.out.dr.below HB1.out).below HB2.out).keep (fun g hg hl=>hO.block g hl (HH.out.inT g hg).2.2.1),HR.out.only hO (fun g hg e=>?_),?_,?_,?_⟩
   · rcases hg with k | k | k | k
     · omega
     · omega
     · exact (HH.out.inR g k).2.2 e
     · have:=HFX.out g k;omega
   · intro g hg
     have k:=HH.out.inT g hg
     exact⟨.inl hg,by omega,by omega,k.2.2.2.2,fun hx=>by have:=HFX.out g hx;omega⟩
   · have k1:=HR.out.blk.lt
     obtain⟨S0,_,k2⟩:= HR.out.jb
     have k3:=k2.lt
     rintro g (k | k | k | k)
     · exact .inr (.inr ⟨by omega,by omega⟩)
     · exact .inr (.inr ⟨by omega,by omega⟩)
     · exact .inr (.inl k)
     · exact .inr (.inr (HFX.out g k))
   · rintro g (k | k | k)
     · have:=HH.out.inT g k;exact⟨this.1,by omega,this.2.2.1⟩
     · have:=HH.out.inR g k;exact⟨this.1,by omega,this.2.2⟩
     · exact⟨by omega,by omega,by omega⟩
theorem z0b (en:Int) (w:World) (h:PreE M lo w pw pd pt qf qr n L V S) (hen:(S.off=true∧en=7)∨ (S.off=false∧S.wear.length < 3∧en=9)) :
 Calls Tryz.prog 31 #[.pointer (some ⟨pw,0,none⟩)] w fun e w'=>e= .returned (.bool true)∧ w'.cell? ⟨pw,4,none⟩=some (.pointer none)∧ zcj (fun g=>g=pw) w w'∧PreE M lo w' pw pd pt qf qr n L V S:=by
 have HPE:=zak h
 obtain⟨gl,cl,cv,Av,ds,es,Fd,Al,clt,Avt,cvt,dt,et,Ft,h⟩:= h
 have HH:=zak h
 obtain⟨v4,v5,hB⟩:= h.blk
 have HB:=zak hB
 have zw:=hB.lt
 have c0:=hB.cell 0 (u:= .pointer (some ⟨pd,0,none⟩)) rfl
 have c1:=hB.cell 1 (u:= .pointer (some ⟨pt,0,none⟩)) rfl
 have c2:=hB.cell 2 (u:= .pointer (some ⟨qf.p,0,none⟩)) rfl
 have c3:=hB.cell 3 (u:= .pointer (some ⟨qr.p,0,none⟩)) rfl
 have HZW:=zak zw
 have hO1:∀ W,FD W qf S→Calls Tryz.prog 11 #[.pointer (some ⟨qf.p,0,none⟩),.pointer (some ⟨pd,0,none⟩)] W fun e w'=>e= .returned (.tuple #[.pointer none,.int .i64 en])∧ W=w':=by
  intro W hW
  rcases hen with ⟨k1,rfl⟩ | ⟨k1,k2,rfl⟩
  · exact zy7 qf S _ W hW k1
  · exact zyz qf S _ W hW k1 k2
 have hO2:∀ W,RF W qr S→Calls Tryz.prog 69 #[.pointer (some ⟨qr.p,0,none⟩),.pointer (some ⟨pt,0,none⟩)] W fun e w'=> ∃ pr,e= .returned (.tuple #[.pointer (some ⟨pr,0,none⟩),.int .i64 en])∧ Below W.heap.size W w':=by
  intro W hW
  rcases hen with ⟨k1,rfl⟩ | ⟨k1,k2,rfl⟩
  · refine zy9 qr _ 7 W (by decide) ((zy8 qr S W hW k1).mono ?_)
    rintro e w' ⟨r,rfl,hb⟩
    exact⟨_,rfl,hb⟩
  · exact zy9 qr _ 9 W (by decide) (zju qr S W hW k1 k2)
 have HO1:=zak hO1
 have HO2:=zak hO2
 have hne:(en == 0)=false:=by rcases hen with ⟨_,rfl⟩ | ⟨_,_,rfl⟩<;> rfl
 clear h hB zw hO1 hO2 hen
 go_enter Tryz.func31,Tryz.ntmps31
 go_wp2_with fail
 refine wp_region_held_drew (S:=(fun w'=>w'.cell? ⟨pw,0,none⟩=some (.pointer (some ⟨pd,0,none⟩))∧ w'.cell? ⟨pw,2,none⟩=some (.pointer (some ⟨qf.p,0,none⟩)))) (by kernel_rfl) ?hS37 (fun hHeld=>?rest37)
 case hS37=>((try dsimp only);(exact⟨c0,c2⟩))
 case' rest37=>skip
 iterate 8 (refine tkN ?_;try simp only[PqL,Act.put])
 refine wpAnyH_ready (rs:= [8]) (by kernel_rfl) (by simp) ?_
 refine AllReadyH.cons (o:=_) rfl (fun K hK=>?_) .nil
 go_simp
 refine (HO1.out _ (HH.out.fd.below (Below.drew (Below.refl w.heap.size w)))).mono ?_
 rintro e w1 ⟨rfl,rfl⟩
 dsimp only
 refine hK.out _ _ ?hS48 (fun hHeld=>?rest48)
 case hS48=>((try dsimp only);(exact⟨c0,c2⟩))
 case' rest48=>(clear hK K;try simp only[PqL,Act.put])
 refine tkH 9 ?_
 try simp only[PqL,Act.put]
 refine tkH 10 ?_
 try simp only[PqL,Act.put]
 refine tkH 11 ?_
 try simp only[PqL,Act.put]
 refine tkH 12 ?_
 try simp only[PqL,Act.put]
 refine tkH 13 ?_
 try simp only[PqL,Act.put]
 refine wpAnyH_done (by kernel_rfl) ?_ _
 have hEnd:=hHeld.2
 repeat (clear hHeld)
 clear hEnd
 go_wp2_with fail
 refine wp_region_held_drew (S:=(fun w'=>w'.cell? ⟨pw,1,none⟩=some (.pointer (some ⟨pt,0,none⟩))∧ w'.cell? ⟨pw,3,none⟩=some (.pointer (some ⟨qr.p,0,none⟩)))) (by kernel_rfl) ?hS55 (fun hHeld=>?rest55)
 case hS55=>((try dsimp only);(exact⟨c1,c3⟩))
 case' rest55=>skip
 iterate 8 (refine tkN ?_;try simp only[PqL,Act.put])
 refine wpAnyH_ready (rs:= [8]) (by kernel_rfl) (by simp) ?_
 refine AllReadyH.cons (o:=_) rfl (fun K hK=>?_) .nil
 go_simp
 refine (HO2.out _ (HH.out.rf.below (Below.drew (Below.drew (Below.refl w.heap.size w))))).mono ?_
 rintro e w2 ⟨prv,rfl,hb2⟩
 have hb02:Below w.heap.size w w2:=(Below.drew (Below.drew (Below.refl w.heap.size w))).trans hb2
 have HB2:=zak hb02
 have e1:=(hb02.cell (p:=⟨pw,1,none⟩) HZW.out).trans c1
 have e3:=(hb02.cell (p:=⟨pw,3,none⟩) HZW.out).trans c3
 have hB2:=HB.out.below hb02 HZW.out
 have HBB:=zak hB2
 clear hb2 hb02
 dsimp only
 refine hK.out _ _ ?hS66 (fun hHeld=>?rest66)
 case hS66=>((try dsimp only);(exact⟨e1,e3⟩))
 case' rest66=>(clear hK K;try simp only[PqL,Act.put])
 refine tkH 9 ?_
 try simp only[PqL,Act.put]
 refine tkH 10 ?_
 try simp only[PqL,Act.put]
 refine tkH 11 ?_
 try simp only[PqL,Act.put]
 refine tkH 12 ?_
 try simp only[PqL,Act.put]
 refine tkH 13 ?_
 try simp only[PqL,Act.put]
 refine wpAnyH_done (by kernel_rfl) ?_ _
 have hEnd:=hHeld.2
 repeat (clear hHeld)
 have f4:=hB2.frozen 4
 have f5:=hB2.frozen 5
 have g4:=hB2.cell 4 (u:=v4) rfl
 have g5:=hB2.cell 5 (u:=v5) rfl
 clear hEnd c0 c1 c2 c3 e1 e3 hB2
 go_wp2_with fail
 go_ret
 have hBW:Blk ((w2.setCell ⟨pw,4,none⟩ (.pointer none)).setCell ⟨pw,5,none⟩ (.pointer (some ⟨prv,0,none⟩))) pw 44 #[.pointer (some ⟨pd,0,none⟩),.pointer (some ⟨pt,0,none⟩),.pointer (some ⟨qf.p,0,none⟩),.pointer (some ⟨qr.p,0,none⟩),.pointer none,.pointer (some ⟨prv,0,none⟩)]:= (HBB.out.set_ 4 _).set_ 5 _
 have hO:zcj (fun g=>g=pw) w ((w2.setCell ⟨pw,4,none⟩ (.pointer none)).setCell ⟨pw,5,none⟩ (.pointer (some ⟨prv,0,none⟩))):= (zcj.of_below HB2.out).trans (zhe _ _ _ _:zcj (fun g=>g=pw) w2 _) (fun _ _ h=>h)
 have hz:=hO.size
 refine⟨rfl,hBW.cell 4 rfl,hO,gl,cl,cv,Av,ds,es,Fd,Al,clt,Avt,cvt,dt,et,Ft,⟨_,_,hBW⟩,HH.out.db.keep (fun g hg hl=>hO.block g hl (HH.out.inD g hg).2.2.1),HH.out.dr.keep (fun g hg hl=>hO.block g hl (HH.out.inT g hg).2.2.1),HH.out.hn,HH.out.fd.only hO (fun g hg e=>(HH.out.inQ g hg).2.2.1 e),HH.out.rf.only hO (fun g hg e=>(HH.out.inR g hg).2.2 e),HH.out.loP,HH.out.loM,fun g hg=>?_,fun g hg=>?_,fun g hg=>?_,fun g hg=>?_⟩
 · have:=HH.out.inD g hg;exact⟨this.1,by omega,this.2.2⟩
 · have:=HH.out.inT g hg;exact⟨this.1,by omega,this.2.2⟩
 · have:=HH.out.inQ g hg;exact⟨this.1,by omega,this.2.2⟩
 · have:=HH.out.inR g hg;exact⟨this.1,by omega,this.2.2⟩
end
end
section
open Go.RowKit
set_option maxRecDepth 20000
set_option maxHeartbeats 1000000
theorem z0c (A A2:Option Addr) (n n2 c c2:Nat) (L:List SV) (w:World) (hn:n=L.length) (hn2:n2=L.length) (hc:n≤c) (hc2:n2≤c2) (hb:n≤35184372088) (hL:SlV w A L) (hL2:SlV w A2 L) :
 Calls Tryz.prog 30 #[.slice A n c,.slice A2 n2 c2] w fun e w'=>e= .returned (.bool true)∧ Below w.heap.size w w':=by
 obtain rfl:n=n2:=by omega
 have HN:=zak hn
 clear hn hn2
 go_enter Tryz.func30,Tryz.ntmps30
 go_wp2_with fail
 go_loopw [5] (fun i wr=> ∃ k,k≤n∧i= .int .i64 (k:Nat)∧ Below w.heap.size w wr) (fun i _=>n - (intOf i).toNat)
 case atStart=>exact⟨0,by omega,rfl,Below.refl _ _⟩
 case round=>
  obtain⟨k,hk,rfl,hbr⟩:= hrel
  by_cases hlt:k < n
  · obtain⟨v,hv⟩:∃ v,L[k]? =some v:=⟨L[k]'(by have:=HN.out;omega),List.getElem?_eq_getElem _⟩
    obtain⟨b,off,Aj,cj,rfl,h0,h1,h2,h4,h5⟩:= (hL.below hbr) k v hv
    obtain⟨b',off',Aj',cj',rfl,g0,g1,g2,g4,g5⟩:= (hL2.below hbr) k v hv
    have HV:=zak hv
    clear hv
    have k1:=fun nq=>zcg (w:=wr.drewN nq) cj rfl (l:=v.data) (show Sl (wr.drewN nq) Aj (v.data.map bv) from h5)
    have k2:=fun nq=>zcg (w:=wr.drewN nq) cj' rfl (l:=v.data) (show Sl (wr.drewN nq) Aj' (v.data.map bv) from g5)
    obtain⟨i1,i2,i3⟩:= zbr hlt
    have hself:(v.ix != v.ix)=false:=by simp
    have hself2:(v.sub != v.sub)=false:=by simp
    go_wp2_with fail
    go_quiet (fail)
    go_wp2_with fail
    go_roundw
    case rel=>exact⟨k+1,by omega,by go_num,zb8 hbr _⟩
    case measure=>simp[intOf];omega
  · go_wp2_with fail
    go_ret
    exact⟨rfl,hbr⟩
end
end Go.Proofs.YtehabbnohoomjaaGreatDoor
